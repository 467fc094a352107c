/- Nothing of a statement is proved in this text alone: it is part 7 of the proof's own tools, an evaluator of the code over deep values, its soundness, and what it makes of this seat's functions. Conditions: none beyond the statement's own. -/
import Derived.Test.YtmdmclbpnkdimaaGreatDoorVsRCProd6
import Derived.Test.YtmdmclbpnkdimaaGreatDoorRows
import Derived.Test.YtmdmclbpnkdimaaGreatDoorTie
import Derived.WalkKit
import Derived.ProofKit
import Derived.Deep.DeepHandedRow
import Derived.Lib.LaidTab
set_option linter.unusedSimpArgs false
set_option linter.unusedVariables false
set_option maxHeartbeats 0
namespace Go.VS
open Go
def PB (k:Sn) (a y:Int):Prop:=(0≤a∧a * k.lo≤y∧y≤a * k.hi)∨(a≤0∧a * k.hi≤y∧y≤a * k.lo)
def TimesS (k:Sn) (r:List Sn) (y:Int):Prop:=∃a,In r a∧PB k a y
def Gp (k:Sn) (a:Int):Prop:=a * (k.hi - k.lo) < k.lo - 1
theorem gp_mono {k:Sn} (hk:KOk k) {a b:Int} (hab:a≤b) (h:¬Gp k a):¬Gp k b:=by
 have:=Int.mul_le_mul_of_nonneg_right hab (show 0≤k.hi - k.lo by have:=hk.2.1;omega)
 unfold Gp at *
 omega
theorem gp_succ {k:Sn} {a:Int}:Gp k a↔a * k.hi+1 < (a+1) * k.lo:=by
 unfold Gp
 rw [Int.mul_sub,Int.add_mul]
 omega
theorem mul_mono {a b c:Int} (hc:0≤c) (h:a≤b):a * c≤b * c:=Int.mul_le_mul_of_nonneg_right h hc
theorem all_met {k:Sn} (hk:KOk k):∀(n:Nat) (x hi y:Int),0≤x→x≤hi→hi≤x+n→¬Gp k x→x * k.lo≤y→y≤hi * k.hi→∃a,x≤a∧a≤hi∧a * k.lo≤y∧y≤a * k.hi
 |0,x,hi,y,h0,h1,h2,hg,h3,h4=>by
  have:hi=x:=by omega
  subst this
  exact ⟨hi,Int.le_refl _,Int.le_refl _,h3,h4⟩
 |n+1,x,hi,y,h0,h1,h2,hg,h3,h4=>by
  by_cases hy:y≤x * k.hi
  ·exact ⟨x,Int.le_refl _,h1,h3,hy⟩
  ·have hlt:x < hi:=by
    rcases Int.lt_or_eq_of_le h1 with h|h
    ·exact h
    ·rw [h] at hy;omega
   have hg':¬(x * k.hi+1 < (x+1) * k.lo):=fun h=>hg (gp_succ.2 h)
   obtain ⟨a,a1,a2,a3,a4⟩:=all_met hk n (x+1) hi y (by omega) (by omega) (by omega) (gp_mono hk (by omega) hg) (by omega) h4
   exact ⟨a,by omega,a2,a3,a4⟩
theorem prodL_sound {k:Sn} (hk:KOk k) {hi:Int}:∀(n:Nat) (x y:Int),0≤x→In (prodL k hi n x) y→∃a,x≤a∧a≤hi∧a * k.lo≤y∧y≤a * k.hi
 |0,_,_,_,h=>absurd h In_nil
 |n+1,x,y,h0,h=>by
  unfold prodL at h
  split at h
  ·rename_i hc
   split at h
   ·rename_i hg
    rcases In_cons.1 h with ⟨h1,h2⟩|h
    ·simp only at h1 h2
     exact all_met hk (hi - x).toNat x hi y h0 hc (by omega) (fun g=>by unfold Gp at g;omega) h1 h2
    ·exact absurd h In_nil
   ·rcases In_cons.1 h with ⟨h1,h2⟩|h
    ·exact ⟨x,Int.le_refl _,hc,h1,h2⟩
    ·obtain ⟨a,a1,a2⟩:=prodL_sound hk n (x+1) y (by omega) h
     exact ⟨a,by omega,a2⟩
  ·exact absurd h In_nil
def Cm (k:Sn) (hi:Int) (n:Nat) (x:Int):Prop:=hi < x+n∨(0 < n∧¬Gp k (x+n - 1))
theorem prodL_all {k:Sn} (hk:KOk k) {hi:Int}:∀(n:Nat) (x y a:Int),0≤x→Cm k hi n x→x≤a→a≤hi→a * k.lo≤y→y≤a * k.hi→In (prodL k hi n x) y
 |0,x,y,a,h0,hc,h1,h2,h3,h4=>by
  rcases hc with hc|hc<;>omega
 |n+1,x,y,a,h0,hc,h1,h2,h3,h4=>by
  unfold prodL
  rw [if_pos (by omega)]
  have m1:=mul_mono hk.1 h1
  have m2:=mul_mono (show 0≤k.hi by have:=hk.1;have:=hk.2.1;omega) h2
  split
  ·exact In_cons.2 (.inl ⟨by simp only;omega,by simp only;omega⟩)
  ·rename_i hg
   by_cases he:a=x
   ·subst he
    exact In_cons.2 (.inl ⟨h3,h4⟩)
   ·refine In_cons.2 (.inr (prodL_all hk n (x+1) y a (by omega) ?_ (by omega) h2 h3 h4))
    rcases hc with hc|⟨hc,hg2⟩
    ·exact .inl (by omega)
    ·have e:x+((n+1:Nat):Int) - 1=x+n:=by omega
     rw [e] at hg2
     rcases Nat.eq_zero_or_pos n with h|h
     ·subst h
      exact absurd (show Gp k x by unfold Gp;omega) (by simpa using hg2)
     ·refine .inr ⟨h,?_⟩
      rw [show x+1+(n:Int) - 1=x+n by omega];exact hg2
theorem prodL_has {k:Sn} (hk:KOk k) {hi:Int}:∀(n:Nat) (x b:Int),0≤x→x≤b→b≤hi→b < x+n→In (prodL k hi n x) (b * k.lo)
 |0,x,b,h0,h1,h2,h3=>by omega
 |n+1,x,b,h0,h1,h2,h3=>by
  unfold prodL
  rw [if_pos (by omega)]
  have m1:=mul_mono hk.1 h1
  have m2:=mul_mono (show 0≤k.hi by have:=hk.1;have:=hk.2.1;omega) h2
  have m3:=Int.mul_le_mul_of_nonneg_left hk.2.1 (show 0≤b by omega)
  split
  ·exact In_cons.2 (.inl ⟨by simp only;omega,by simp only;omega⟩)
  ·by_cases he:b=x
   ·subst he
    exact In_cons.2 (.inl ⟨Int.le_refl _,m3⟩)
   ·exact In_cons.2 (.inr (prodL_has hk n (x+1) b (by omega) (by omega) h2 (by omega)))
theorem cm_mono {k:Sn} (hk:KOk k) {hi x x':Int} {n m:Nat} (h:Cm k hi n x) (hn:x+n≤x'+m) (hm:0 < m):Cm k hi m x':=by
 rcases h with h|⟨h,g⟩
 ·exact .inl (by omega)
 ·exact .inr ⟨hm,gp_mono hk (by omega) g⟩
theorem In_neg {l:List Sn} {y:Int}:In (l.map negS) y↔In l (-y):=by
 unfold In
 simp only [List.mem_map]
 constructor
 ·rintro ⟨s,⟨t,ht,rfl⟩,h1,h2⟩
  unfold negS at h1 h2
  exact ⟨t,ht,by simp only at h1 h2;omega,by simp only at h1 h2;omega⟩
 ·rintro ⟨t,ht,h1,h2⟩
  exact ⟨negS t,⟨t,ht,rfl⟩,by unfold negS;simp only;omega,by unfold negS;simp only;omega⟩
def halves (k:Sn) (n m:Nat) (d:Int) (x:Sn):List Sn:=prodL k x.hi n (max x.lo 0)++(prodL k (-x.lo) m (max (-x.hi) d)).map negS
theorem pb_neg {k:Sn} {a y:Int} (h0:0≤a) (h1:a * k.lo≤-y) (h2:-y≤a * k.hi):PB k (-a) y:=.inr ⟨by omega,by rw [Int.neg_mul];omega,by rw [Int.neg_mul];omega⟩
theorem halves_sound {k:Sn} (hk:KOk k) {n m:Nat} {d:Int} (hd:0≤d) {x:Sn} {y:Int} (h:In (halves k n m d x) y):∃a,x.lo≤a∧a≤x.hi∧PB k a y:=by
 rcases In_append.1 h with h|h
 ·obtain ⟨a,a1,a2,a3,a4⟩:=prodL_sound hk n _ y (by omega) h
  exact ⟨a,by omega,a2,.inl ⟨by omega,a3,a4⟩⟩
 ·obtain ⟨a,a1,a2,a3,a4⟩:=prodL_sound hk m _ (-y) (by omega) (In_neg.1 h)
  exact ⟨-a,by omega,by omega,pb_neg (by omega) a3 a4⟩
theorem halves_all {k:Sn} (hk:KOk k) {n m:Nat} {d:Int} (hd:0≤d) (hd1:d≤1) {x:Sn} (h1:Cm k x.hi n (max x.lo 0)) (h2:Cm k (-x.lo) m (max (-x.hi) d)) {a y:Int} (ha1:x.lo≤a) (ha2:a≤x.hi) (h:PB k a y):In (halves k n m d x) y:=by
 unfold halves
 rw [In_append]
 have pos:0≤a→a * k.lo≤y→y≤a * k.hi→In (prodL k x.hi n (max x.lo 0)) y:=fun p1 p2 p3=>prodL_all hk n _ y a (by omega) h1 (by omega) ha2 p2 p3
 rcases h with ⟨p1,p2,p3⟩|⟨p1,p2,p3⟩
 ·exact .inl (pos p1 p2 p3)
 ·by_cases he:a=0
  ·subst he
   exact .inl (pos (by omega) (by simpa using p2) (by simpa using p3))
  ·refine .inr (In_neg.2 (prodL_all hk m _ (-y) (-a) (by omega) h2 (by omega) (by omega) ?_ ?_))<;>rw [Int.neg_mul]<;>omega
theorem halves_bd {k:Sn} (hk:KOk k) {n m:Nat} {d:Int} (hd:0≤d) {x:Sn} (hx:-1099511627776≤x.lo∧x.lo≤x.hi∧x.hi≤1099511627776):∀s∈halves k n m d x,-1099511627776000≤s.lo∧s.lo≤s.hi∧s.hi≤1099511627776000:=fun s hs=>by
 rcases List.mem_append.1 hs with h|h
 ·have:=prodL_bd k hk x.hi (by omega) n _ (by omega) s h
  omega
 ·obtain ⟨t,ht,rfl⟩:=List.mem_map.1 h
  have:=prodL_bd k hk (-x.lo) (by omega) m _ (by omega) t ht
  unfold negS
  simp only
  omega
theorem gap_out {k:Sn} (hk:KOk k) {a:Int} (ha:0≤a) (hg:Gp k a) {b:Int}:¬PB k b (a * k.hi+1)∧¬PB k b (-(a * k.hi+1)):=by
 have hg:=gp_succ.1 hg
 have k0:0≤k.hi:=by have:=hk.1;have:=hk.2.1;omega
 have ak:=Int.mul_nonneg ha k0
 have up:∀c,0≤c→c * k.lo≤a * k.hi+1→a * k.hi+1≤c * k.hi→False:=fun c h0 h1 h2=>by
  rcases Int.lt_or_le a c with h|h
  ·have:=mul_mono hk.1 (show a+1≤c by omega);omega
  ·have:=mul_mono k0 h;omega
 constructor
 ·rintro (⟨h0,h1,h2⟩|⟨h0,h1,h2⟩)
  ·exact up b h0 h1 h2
  ·have:=Int.mul_nonneg (show 0≤-b by omega) hk.1
   rw [Int.neg_mul] at this
   omega
 ·rintro (⟨h0,h1,h2⟩|⟨h0,h1,h2⟩)
  ·have:=Int.mul_nonneg h0 hk.1
   omega
  ·exact up (-b) (by omega) (by rw [Int.neg_mul];omega) (by rw [Int.neg_mul];omega)
theorem timesL_halves (k x:Sn):timesL k x=halves k 2049 2049 0 x:=rfl
theorem many_gaps {k:Sn} (hk:KOk k) {l r:List Sn} (hl:cn l) (hs:∀y,In l y→TimesS k r y) {b:Int} (hb:0≤b) (hg:Gp k (b+64)) (h:(∀j:Nat,j < 65→In l ((b+j) * k.lo))∨(∀j:Nat,j < 65→In l (-((b+j) * k.lo)))):64 < l.length:=by
 have gj:∀j:Nat,j < 65→Gp k (b+j):=fun j hj=>Classical.byContradiction fun hn=>gp_mono hk (show b+j≤b+64 by omega) hn hg
 have no:∀j:Nat,j < 65→¬In l ((b+j) * k.hi+1)∧¬In l (-((b+j) * k.hi+1)):=fun j hj =>
  ⟨fun hi=>by obtain ⟨a,_,h⟩:=hs _ hi;exact (gap_out hk (by omega) (gj j hj)).1 h,fun hi=>by obtain ⟨a,_,h⟩:=hs _ hi;exact (gap_out hk (by omega) (gj j hj)).2 h⟩
 have st:∀j:Nat,j+1 < 65→(b+j) * k.lo < (b+j) * k.hi+1∧(b+j) * k.hi+1 < (b+((j+1:Nat):Int)) * k.lo:=fun j hj=>by
  have h1:=gp_succ.1 (gj j (by omega))
  have h2:=Int.mul_le_mul_of_nonneg_left hk.2.1 (show 0≤b+j by omega)
  rw [show b+((j+1:Nat):Int)=b+j+1 by omega]
  omega
 rcases h with h|h
 ·have:=cn_count hl 65 (fun j=>(b+j) * k.lo) (fun j=>(b+j) * k.hi+1) h fun j hj=>⟨(no j (by omega)).1,st j hj⟩
  omega
 ·have:=cn_count' hl 65 (fun j=>-((b+j) * k.lo)) (fun j=>-((b+j) * k.hi+1)) h fun j hj=>by
   have:=st j hj
   exact ⟨(no j (by omega)).2,by omega,by omega⟩
  omega
def OverS (k:Sn) (r:List Sn) (y:Int):Prop:=∃c,k.lo≤c∧c≤k.hi∧In r (y * c)
theorem div_in {c y lo hi:Int} (hc:1≤c):(-((-lo) / c)≤y∧y≤hi / c)↔lo≤y * c∧y * c≤hi:=by
 rw [Int.le_ediv_iff_mul_le (by omega)]
 have:-((-lo) / c)≤y↔lo≤y * c:=by
  have h:-y≤(-lo) / c↔-y * c≤-lo:=Int.le_ediv_iff_mul_le (by omega)
  rw [Int.neg_mul] at h
  omega
 rw [this]
theorem In_overL {x:Sn}:∀(n:Nat) (c y:Int),1≤c→(In (overL x n c) y↔∃d,c≤d∧d < c+n∧x.lo≤y * d∧y * d≤x.hi)
 |0,c,y,hc=>⟨fun h=>absurd h In_nil,fun ⟨d,h1,h2,_⟩=>by omega⟩
 |n+1,c,y,hc=>by
  unfold overL
  rw [In_append,In_some,div_in hc,In_overL n (c+1) y (by omega)]
  constructor
  ·rintro (h|⟨d,h1,h2,h3⟩)
   ·exact ⟨c,Int.le_refl _,by omega,h⟩
   ·exact ⟨d,by omega,by omega,h3⟩
  ·rintro ⟨d,h1,h2,h3⟩
   by_cases he:d=c
   ·subst he;exact .inl h3
   ·exact .inr ⟨d,by omega,by omega,h3⟩
theorem In_over {k:Sn} (hk:KOv k) {r:List Sn} {y:Int}:In (r.flatMap fun x=>overL x (k.hi+1 - k.lo).toNat k.lo) y↔OverS k r y:=by
 rw [In_flat]
 constructor
 ·rintro ⟨x,hx,h⟩
  obtain ⟨d,h1,h2,h3,h4⟩:=(In_overL _ _ _ hk.1).1 h
  exact ⟨d,h1,by omega,x,hx,h3,h4⟩
 ·rintro ⟨c,h1,h2,x,hx,h3,h4⟩
  exact ⟨x,hx,(In_overL _ _ _ hk.1).2 ⟨c,h1,by have:=hk.2.1;omega,h3,h4⟩⟩
theorem overL_ne {x:Sn}:∀(n:Nat) (c:Int),∀s∈overL x n c,s.lo≤s.hi
 |0,_,s,h=>by cases h
 |n+1,c,s,h=>by
  rcases List.mem_append.1 h with h|h
  ·exact some_ne s h
  ·exact overL_ne n _ s h
end Go.VS

namespace Go.VS
open Go Go.Proofs
def zv (n:Int) (by_:Int):Int :=
 bif decide ((n.tmod by_) < 0) then
  w64 ((w64 (n.tdiv by_)) - 1)
 else
  w64 (n.tdiv by_)

theorem T_r_Down (n:Int) (by_:Int) (hb:by_≠0):(lim cfg).pure 79 [I n,I by_]=some (I (zv n by_)):=by
 unfold zv
 cases h1:decide ((n.tmod by_) < 0) with
 |true =>
  have g1:=of_decide_eq_true h1
  exact zl [.op (some 8) ⟨I (w64 (n.tdiv by_)),[],[],0⟩,.op (some 11) ⟨I (n.tmod by_),[],[],0⟩,.dec true] (Ai h1 (Ai (rem_op (C:=cfg) (t:=3) (cst:=false) (nxt:=0) (a:=n) (b:=by_) (by omega)) (Ai (quo_op (C:=cfg) (t:=3) (cst:=false) (nxt:=0) (a:=n) (b:=by_) (by omega)) trivial))) (by kernel_rfl)
 |false =>
  have g1:=of_decide_eq_false h1
  exact zl [.op (some 8) ⟨I (w64 (n.tdiv by_)),[],[],0⟩,.op (some 11) ⟨I (n.tmod by_),[],[],0⟩,.dec false] (Ai h1 (Ai (rem_op (C:=cfg) (t:=3) (cst:=false) (nxt:=0) (a:=n) (b:=by_) (by omega)) (Ai (quo_op (C:=cfg) (t:=3) (cst:=false) (nxt:=0) (a:=n) (b:=by_) (by omega)) trivial))) (by kernel_rfl)

end Go.VS

namespace Go.VS
open List (length_set length_append length_cons length_nil)
open Go Go.Proofs
def sd45006 (ν0 ν1 ν2:Nat) (μ0:List Sn) (μ1:Int) (μ2:Int) (μ3:Sn):St:=⟨55,[(7,B false),(6,.sl true [] 0 none),(18,B true),(17,I ((μ0.length:Nat):Int)),(16,.lsl ν0 0 μ0.length 2 none),(13,B true),(12,I μ1),(11,I μ2),(1,I μ1),(5,.lref ν1 0 2 0),(8,.lsl ν0 0 μ0.length 2 none),(9,I μ2)],[(ν1,⟨[.agg [I μ3.lo,I μ3.hi]],2,false⟩),(ν0,⟨μ0.map Sn.D,2,false⟩)],ν2,ν1⟩

def sd45007 (ν0 ν1 ν2 ν3 ν4:Nat) (μ0:List Sn) (μ1:Int) (μ2:Sn) (μ3:Int):St:=⟨55,[(7,B true),(6,.lsl ν0 0 ((μ0++[(⟨w64 (μ1 * μ2.lo),w64 (μ3 * μ2.hi)⟩:Sn)]).length) 2 none),(41,.lsl ν0 0 ((μ0++[(⟨w64 (μ1 * μ2.lo),w64 (μ3 * μ2.hi)⟩:Sn)]).length) 2 none),(40,.lsl ν1 0 1 2 (some 1)),(39,.agg [I (w64 (μ1 * μ2.lo)),I (w64 (μ3 * μ2.hi))]),(38,I (w64 (μ3 * μ2.hi))),(37,I μ2.hi),(36,.lref ν2 0 2 1),(35,I μ3),(34,I (w64 (μ1 * μ2.lo))),(33,I μ2.lo),(32,.lref ν2 0 2 0),(31,I μ1),(30,.lsl ν3 0 μ0.length 2 none),(29,B true),(28,I (w64 ((w64 (μ1 * μ2.hi))+1))),(27,I (w64 (μ1 * μ2.hi))),(26,I μ2.hi),(25,.lref ν2 0 2 1),(24,I μ1),(23,I (w64 ((w64 (μ1+1)) * μ2.lo))),(22,I μ2.lo),(21,.lref ν2 0 2 0),(20,I (w64 (μ1+1))),(19,I μ1),(18,B false),(17,I ((μ0.length:Nat):Int)),(16,.lsl ν3 0 μ0.length 2 none),(13,B true),(12,I μ3),(11,I μ1),(1,I μ3),(5,.lref ν2 0 2 0),(8,.lsl ν3 0 μ0.length 2 none),(9,I μ1)],[(ν2,⟨[.agg [I μ2.lo,I μ2.hi]],2,false⟩),(ν1,⟨[.agg [I (w64 (μ1 * μ2.lo)),I (w64 (μ3 * μ2.hi))]],2,false⟩),(ν0,⟨(μ0++[(⟨w64 (μ1 * μ2.lo),w64 (μ3 * μ2.hi)⟩:Sn)]).map Sn.D,2,false⟩)],ν4,ν2⟩

def sd45008 (ν0 ν1 ν2:Nat) (μ0:Int) (μ1:Int) (μ2:List Sn) (μ3:Sn):St:=⟨55,[(13,B false),(12,I μ0),(11,I μ1),(1,I μ0),(5,.lref ν0 0 2 0),(8,.lsl ν1 0 μ2.length 2 none),(9,I μ1)],[(ν0,⟨[.agg [I μ3.lo,I μ3.hi]],2,false⟩),(ν1,⟨μ2.map Sn.D,2,false⟩)],ν2,ν0⟩

def sd45009 (ν0 ν1 ν2 ν3:Nat) (μ0:Int) (μ1:Sn) (μ2:Int):St:=⟨55,[(7,B true),(6,.lsl ν0 0 1 2 none),(41,.lsl ν0 0 1 2 none),(40,.lsl ν1 0 1 2 (some 1)),(39,.agg [I (w64 (μ0 * μ1.lo)),I (w64 (μ2 * μ1.hi))]),(38,I (w64 (μ2 * μ1.hi))),(37,I μ1.hi),(36,.lref ν2 0 2 1),(35,I μ2),(34,I (w64 (μ0 * μ1.lo))),(33,I μ1.lo),(32,.lref ν2 0 2 0),(31,I μ0),(30,.sl true [] 0 none),(29,B true),(28,I (w64 ((w64 (μ0 * μ1.hi))+1))),(27,I (w64 (μ0 * μ1.hi))),(26,I μ1.hi),(25,.lref ν2 0 2 1),(24,I μ0),(23,I (w64 ((w64 (μ0+1)) * μ1.lo))),(22,I μ1.lo),(21,.lref ν2 0 2 0),(20,I (w64 (μ0+1))),(19,I μ0),(18,B false),(17,I 0),(16,.sl true [] 0 none),(13,B true),(12,I μ2),(11,I μ0),(1,I μ2),(5,.lref ν2 0 2 0),(8,.sl true [] 0 none),(9,I μ0)],[(ν2,⟨[.agg [I μ1.lo,I μ1.hi]],2,false⟩),(ν1,⟨[.agg [I (w64 (μ0 * μ1.lo)),I (w64 (μ2 * μ1.hi))]],2,false⟩),(ν0,⟨[.agg [I (w64 (μ0 * μ1.lo)),I (w64 (μ2 * μ1.hi))]],2,false⟩)],ν3,ν2⟩

def sd45010 (ν0 ν1:Nat) (μ0:Int) (μ1:Int) (μ2:Sn):St:=⟨55,[(13,B false),(12,I μ0),(11,I μ1),(1,I μ0),(5,.lref ν0 0 2 0),(8,.sl true [] 0 none),(9,I μ1)],[(ν0,⟨[.agg [I μ2.lo,I μ2.hi]],2,false⟩)],ν1,ν0⟩

noncomputable def lp73_3:Code:=subC [1,1,0,1,0,0] (bodyC Tryz.f73)

def sd45011 (ν0 ν1 ν2 ν3 ν4:Nat) (μ0:Int) (μ1:List Sn) (μ2:Sn) (μ3:Int):St:=⟨55,[(9,I (w64 (μ0+1))),(15,I (w64 (μ0+1))),(14,I μ0),(8,.lsl ν0 0 ((μ1++[(⟨w64 (μ0 * μ2.lo),w64 (μ0 * μ2.hi)⟩:Sn)]).length) 2 none),(53,.lsl ν0 0 ((μ1++[(⟨w64 (μ0 * μ2.lo),w64 (μ0 * μ2.hi)⟩:Sn)]).length) 2 none),(52,.lsl ν1 0 1 2 (some 1)),(51,.agg [I (w64 (μ0 * μ2.lo)),I (w64 (μ0 * μ2.hi))]),(50,I (w64 (μ0 * μ2.hi))),(49,I μ2.hi),(48,.lref ν2 0 2 1),(47,I μ0),(46,I (w64 (μ0 * μ2.lo))),(45,I μ2.lo),(44,.lref ν2 0 2 0),(43,I μ0),(42,.lsl ν3 0 μ1.length 2 none),(29,B false),(28,I (w64 ((w64 (μ0 * μ2.hi))+1))),(27,I (w64 (μ0 * μ2.hi))),(26,I μ2.hi),(25,.lref ν2 0 2 1),(24,I μ0),(23,I (w64 ((w64 (μ0+1)) * μ2.lo))),(22,I μ2.lo),(21,.lref ν2 0 2 0),(20,I (w64 (μ0+1))),(19,I μ0),(18,B false),(17,I ((μ1.length:Nat):Int)),(16,.lsl ν3 0 μ1.length 2 none),(13,B true),(12,I μ3),(11,I μ0),(1,I μ3),(5,.lref ν2 0 2 0),(8,.lsl ν3 0 μ1.length 2 none),(9,I μ0)],[(ν2,⟨[.agg [I μ2.lo,I μ2.hi]],2,false⟩),(ν1,⟨[.agg [I (w64 (μ0 * μ2.lo)),I (w64 (μ0 * μ2.hi))]],2,false⟩),(ν0,⟨(μ1++[(⟨w64 (μ0 * μ2.lo),w64 (μ0 * μ2.hi)⟩:Sn)]).map Sn.D,2,false⟩)],ν4,ν2⟩

inductive LR_r_products_3 where
 |x0 (yD:List Sn) (yE:Int)
 |x1 (yD:List Sn) (yE:Int)
 |x2 (yD:List Sn) (yE:Int)
 |x3
 |x4
 |out
instance:Inhabited LR_r_products_3:=⟨.out⟩
def r_products_3a (lo:Int) (hi:Int) (k:Sn):Nat→(List Sn)→Int→LR_r_products_3
 |0,_,_=>.out
 |xi+1,yD,yE =>
  bif decide (yE≤hi) then
   bif decide ((yD.length:Int)>64) then
    .x0 yD yE
   else
    bif decide ((w64 ((w64 (yE+1)) * k.lo))≤(w64 ((w64 (yE * k.hi))+1))) then
     .x1 yD yE
    else
     r_products_3a lo hi k xi (yD++[(⟨w64 (yE * k.lo),w64 (yE * k.hi)⟩:Sn)]) (w64 (yE+1))
  else
   .x2 yD yE
def r_products_3 (lo:Int) (hi:Int) (k:Sn):Nat→LR_r_products_3
 |0=>.out
 |xi+1 =>
  bif decide (lo≤hi) then
   bif decide ((w64 ((w64 (lo+1)) * k.lo))≤(w64 ((w64 (lo * k.hi))+1))) then
    .x3
   else
    r_products_3a lo hi k xi [(⟨w64 (lo * k.lo),w64 (lo * k.hi)⟩:Sn)] (w64 (lo+1))
  else
   .x4
def lr_r_products_3 (lo:Int) (hi:Int) (k:Sn):LR_r_products_3→Exit × St
 |.x0 yD yE=>(.ret,(sd45006 1 0 2 yD hi yE k))
 |.x1 yD yE=>(.ret,(sd45007 3 2 0 1 4 yD yE k hi))
 |.x2 yD yE=>((.exit 0),(sd45008 0 1 2 hi yE yD k))
 |.x3=>(.ret,(sd45009 2 1 0 3 lo k hi))
 |.x4=>((.exit 0),(sd45010 0 1 hi lo k))
 |.out=>(.normal,⟨0,[],[],0,0⟩)
def iv_r_products_3 (lo:Int) (hi:Int) (k:Sn):LR_r_products_3→Prop
 |.x0 yD yE=>(yD.length≤65)
 |.x1 yD yE=>(yD.length≤65)
 |.x2 yD yE=>(yD.length≤65)
 |.x3=>True
 |.x4=>True
 |.out=>True
theorem lp_r_products_3a (lo:Int) (hi:Int) (k:Sn):∀(xi:Nat) (yD:List Sn) (yE:Int) (hf3:r_products_3a lo hi k xi yD yE≠.out) (hw1:yD.length≤65),(lim cfg).loop 73 lp73_3 ⟨55,[(1,I hi),(5,.lref 0 0 2 0),(8,.lsl 1 0 yD.length 2 none),(9,I yE)],[(0,⟨[.agg [I k.lo,I k.hi]],2,false⟩),(1,⟨yD.map Sn.D,2,false⟩)],2,0⟩=some (lr_r_products_3 lo hi k (r_products_3a lo hi k xi yD yE)):=by
 intro xi
 induction xi with
 |zero =>
  intro yD yE hf3 hw1
  exact absurd rfl hf3
 |succ xi ih =>
  intro yD yE hf3 hw1
  unfold r_products_3a at hf3 ⊢
  revert hf3
  cases h8:decide (yE≤hi) with
  |true =>
   have g8:=of_decide_eq_true h8
   cases h9:decide ((yD.length:Int)>64) with
   |true =>
    have g9:=of_decide_eq_true h9
    intro hf3
    exact zr [.dec true,.dec true] (Ai h9 (Ai h8 trivial)) (by kernel_rfl)
   |false =>
    have g9:=of_decide_eq_false h9
    cases h10:decide ((w64 ((w64 (yE+1)) * k.lo))≤(w64 ((w64 (yE * k.hi))+1))) with
    |true =>
     have g10:=of_decide_eq_true h10
     intro hf3
     exact zr [.dec true,.dec false,.dec true,.op (some 41) ⟨.lsl 3 0 ((yD++[(⟨w64 (yE * k.lo),w64 (hi * k.hi)⟩:Sn)]).length) 2 none,[(1,none),(3,some ⟨(yD++[(⟨w64 (yE * k.lo),w64 (hi * k.hi)⟩:Sn)]).map Sn.D,2,false⟩)],[1,2],4⟩] (Ai (app_row (f:=Sn.D) (te:=zG) (gO:=zn [(0,⟨[.agg [I k.lo,I k.hi]],2,false⟩),(1,⟨yD.map Sn.D,2,false⟩),(2,⟨[.agg [I (w64 (yE * k.lo)),I (w64 (hi * k.hi))]],2,false⟩)]) (nxt:=3) (o:=1) (o2:=2) (fz:=false) z6 yD (⟨w64 (yE * k.lo),w64 (hi * k.hi)⟩:Sn) (by kernel_rfl) (by kernel_rfl) rfl (by kernel_rfl) (by decide) ⟨by simp only [zG,big]<;>(omega),by simp only [big]<;>(omega)⟩) (Ai h10 (Ai h9 (Ai h8 trivial)))) (by kernel_rfl)
    |false =>
     have g10:=of_decide_eq_false h10
     intro hf3
     exact zw (ks:=[1,5,8,9]) (st':=(sd45011 3 2 0 1 4 yE yD k hi)) [.dec true,.dec false,.dec false,.op (some 53) ⟨.lsl 3 0 ((yD++[(⟨w64 (yE * k.lo),w64 (yE * k.hi)⟩:Sn)]).length) 2 none,[(1,none),(3,some ⟨(yD++[(⟨w64 (yE * k.lo),w64 (yE * k.hi)⟩:Sn)]).map Sn.D,2,false⟩)],[1,2],4⟩] (Ai (app_row (f:=Sn.D) (te:=zG) (gO:=zn [(0,⟨[.agg [I k.lo,I k.hi]],2,false⟩),(1,⟨yD.map Sn.D,2,false⟩),(2,⟨[.agg [I (w64 (yE * k.lo)),I (w64 (yE * k.hi))]],2,false⟩)]) (nxt:=3) (o:=1) (o2:=2) (fz:=false) z6 yD (⟨w64 (yE * k.lo),w64 (yE * k.hi)⟩:Sn) (by kernel_rfl) (by kernel_rfl) rfl (by kernel_rfl) (by decide) ⟨by simp only [zG,big]<;>(omega),by simp only [big]<;>(omega)⟩) (Ai h10 (Ai h9 (Ai h8 trivial)))) (by kernel_rfl) (by (simp only [sd45011,go_sem,length_set,Nat.reduceAdd,Nat.reduceEqDiff,Nat.reduceLT,Nat.reduceLeDiff,bI2,zc.idsL,zc.renL,zc.snapAll,z6.idsL,z6.renL,z6.snapAll])<;>rfl) (ih (yD++[(⟨w64 (yE * k.lo),w64 (yE * k.hi)⟩:Sn)]) (w64 (yE+1)) hf3 (by simp only [length_append,length_cons,length_nil] at *<;>omega)) (by kernel_rfl)
  |false =>
   have g8:=of_decide_eq_false h8
   intro hf3
   exact zr [.dec false] (Ai h8 trivial) (by kernel_rfl)
theorem ivt_r_products_3a (lo:Int) (hi:Int) (k:Sn):∀(xi:Nat) (yD:List Sn) (yE:Int) (hf3:r_products_3a lo hi k xi yD yE≠.out) (hw1:yD.length≤65),iv_r_products_3 lo hi k (r_products_3a lo hi k xi yD yE):=by
 intro xi
 induction xi with
 |zero =>
  intro yD yE hf3 hw1
  exact absurd rfl hf3
 |succ xi ih =>
  intro yD yE hf3 hw1
  unfold r_products_3a at hf3 ⊢
  revert hf3
  cases h8:decide (yE≤hi) with
  |true =>
   have g8:=of_decide_eq_true h8
   cases h9:decide ((yD.length:Int)>64) with
   |true =>
    have g9:=of_decide_eq_true h9
    intro hf3
    exact hw1
   |false =>
    have g9:=of_decide_eq_false h9
    cases h10:decide ((w64 ((w64 (yE+1)) * k.lo))≤(w64 ((w64 (yE * k.hi))+1))) with
    |true =>
     have g10:=of_decide_eq_true h10
     intro hf3
     exact hw1
    |false =>
     have g10:=of_decide_eq_false h10
     intro hf3
     exact ih (yD++[(⟨w64 (yE * k.lo),w64 (yE * k.hi)⟩:Sn)]) (w64 (yE+1)) hf3 (by simp only [length_append,length_cons,length_nil] at *<;>omega)
  |false =>
   have g8:=of_decide_eq_false h8
   intro hf3
   exact hw1
theorem lp_r_products_3 (lo:Int) (hi:Int) (k:Sn):∀(xi:Nat) (hf3:r_products_3 lo hi k xi≠.out),(lim cfg).loop 73 lp73_3 ⟨55,[(1,I hi),(5,.lref 0 0 2 0),(8,.sl true [] 0 none),(9,I lo)],[(0,⟨[.agg [I k.lo,I k.hi]],2,false⟩)],1,0⟩=some (lr_r_products_3 lo hi k (r_products_3 lo hi k xi)):=by
 intro xi
 induction xi with
 |zero =>
  intro hf3
  exact absurd rfl hf3
 |succ xi ih =>
  intro hf3
  unfold r_products_3 at hf3 ⊢
  revert hf3
  cases h11:decide (lo≤hi) with
  |true =>
   have g11:=of_decide_eq_true h11
   cases h12:decide ((w64 ((w64 (lo+1)) * k.lo))≤(w64 ((w64 (lo * k.hi))+1))) with
   |true =>
    have g12:=of_decide_eq_true h12
    intro hf3
    exact zr [.dec true,.dec false,.dec true] (Ai h12 (Ai (Eq.refl false) (Ai h11 trivial))) (by kernel_rfl)
   |false =>
    have g12:=of_decide_eq_false h12
    intro hf3
    exact po_turn [.dec true,.dec false,.dec false] (Ai h12 (Ai (Eq.refl false) (Ai h11 trivial))) (lp_r_products_3a lo hi k _ [(⟨w64 (lo * k.lo),w64 (lo * k.hi)⟩:Sn)] (w64 (lo+1)) hf3 (by simp only [length_append,length_cons,length_nil] at *<;>omega)) (by kernel_rfl)
  |false =>
   have g11:=of_decide_eq_false h11
   intro hf3
   exact zr [.dec false] (Ai h11 trivial) (by kernel_rfl)
theorem ivt_r_products_3 (lo:Int) (hi:Int) (k:Sn):∀(xi:Nat) (hf3:r_products_3 lo hi k xi≠.out),iv_r_products_3 lo hi k (r_products_3 lo hi k xi):=by
 intro xi
 induction xi with
 |zero =>
  intro hf3
  exact absurd rfl hf3
 |succ xi ih =>
  intro hf3
  unfold r_products_3 at hf3 ⊢
  revert hf3
  cases h11:decide (lo≤hi) with
  |true =>
   have g11:=of_decide_eq_true h11
   cases h12:decide ((w64 ((w64 (lo+1)) * k.lo))≤(w64 ((w64 (lo * k.hi))+1))) with
   |true =>
    have g12:=of_decide_eq_true h12
    intro hf3
    exact trivial
   |false =>
    have g12:=of_decide_eq_false h12
    intro hf3
    exact ivt_r_products_3a lo hi k _ [(⟨w64 (lo * k.lo),w64 (lo * k.hi)⟩:Sn)] (w64 (lo+1)) hf3 (by simp only [length_append,length_cons,length_nil] at *<;>omega)
  |false =>
   have g11:=of_decide_eq_false h11
   intro hf3
   exact trivial

theorem r_products_3_ne' (lo:Int) (hi:Int) (k:Sn):∀(n:Nat) (v:List Sn) (i:Int),67≤v.length+n→v.length≤65→r_products_3a lo hi k n v i≠.out
 |0,v,i,h1,h2=>by omega
 |n+1,v,i,h1,h2=>by
  unfold r_products_3a
  simp only [Bool.cond_eq_ite]
  repeat' split
  all_goals simp only [decide_eq_true_eq] at *
  all_goals first|(intro h;cases h;done)|exact r_products_3_ne' lo hi k n _ _ (by simp only [length_append,length_cons,length_nil] at *;omega) (by simp only [length_append,length_cons,length_nil] at *;omega)
theorem r_products_3_ne (lo:Int) (hi:Int) (k:Sn):r_products_3 lo hi k 68≠.out:=by
 unfold r_products_3
 simp only [Bool.cond_eq_ite]
 repeat' split
 all_goals first|(intro h;cases h;done)|exact r_products_3_ne' lo hi k 67 _ _ (by simp) (by simp)

def z7 (lo:Int) (hi:Int) (k:Sn):(GS Sn) × Bool :=
 match r_products_3 lo hi k 68 with
 |.x0 yD yE =>
  (GS.nil,false)
 |.x1 yD yE =>
  (GS.some (yD++[(⟨w64 (yE * k.lo),w64 (hi * k.hi)⟩:Sn)]),true)
 |.x2 yD yE =>
  (GS.some yD,true)
 |.x3 =>
  (GS.some [(⟨w64 (lo * k.lo),w64 (hi * k.hi)⟩:Sn)],true)
 |.x4 =>
  (GS.nil,true)
 |.out =>
  default

theorem T_r_products (lo:Int) (hi:Int) (k:Sn):(lim cfg).pure 73 [I lo,I hi,Sn.D k]=some (.tup [GS.D Sn.D 2 ((z7 lo hi k).1),B ((z7 lo hi k).2)]):=by
 unfold z7
 cases h13:r_products_3 lo hi k 68 with
 |x0 yD yE =>
  try dsimp only
  have w6:=ivt_r_products_3 lo hi k 68 (r_products_3_ne _ _ _)
  rw [h13] at w6
  have xX:=w6
  try dsimp only [iv_r_products_3] at xX
  exact zl [.loop .ret (sd45006 1 0 2 yD hi yE k)] (Ai (zB (q:=lr_r_products_3 lo hi k) (lp_r_products_3 lo hi k 68 (r_products_3_ne _ _ _)) h13) trivial) (by kernel_rfl)
 |x1 yD yE =>
  try dsimp only
  have w6:=ivt_r_products_3 lo hi k 68 (r_products_3_ne _ _ _)
  rw [h13] at w6
  have xX:=w6
  try dsimp only [iv_r_products_3] at xX
  exact po_pureS [.loop .ret (sd45007 3 2 0 1 4 yD yE k hi)] [(3,.sl false ((yD++[(⟨w64 (yE * k.lo),w64 (hi * k.hi)⟩:Sn)]).map Sn.D) 2 none,[3])] (Ai (yx (gO:=zn [(0,⟨[.agg [I k.lo,I k.hi]],2,false⟩),(2,⟨[.agg [I (w64 (yE * k.lo)),I (w64 (hi * k.hi))]],2,false⟩),(3,⟨(yD++[(⟨w64 (yE * k.lo),w64 (hi * k.hi)⟩:Sn)]).map Sn.D,2,false⟩)]) (o:=3) (len:=(yD++[(⟨w64 (yE * k.lo),w64 (hi * k.hi)⟩:Sn)]).length) (cap:=none) (fz:=false) z6 (yD++[(⟨w64 (yE * k.lo),w64 (hi * k.hi)⟩:Sn)]) (by kernel_rfl) (by omega)) (Ai (zB (q:=lr_r_products_3 lo hi k) (lp_r_products_3 lo hi k 68 (r_products_3_ne _ _ _)) h13) trivial)) (by kernel_rfl)
 |x2 yD yE =>
  try dsimp only
  have w6:=ivt_r_products_3 lo hi k 68 (r_products_3_ne _ _ _)
  rw [h13] at w6
  have xX:=w6
  try dsimp only [iv_r_products_3] at xX
  exact po_pureS [.loop (.exit 0) (sd45008 0 1 2 hi yE yD k)] [(1,.sl false (yD.map Sn.D) 2 none,[1])] (Ai (yx (gO:=zn [(0,⟨[.agg [I k.lo,I k.hi]],2,false⟩),(1,⟨yD.map Sn.D,2,false⟩)]) (o:=1) (len:=yD.length) (cap:=none) (fz:=false) z6 yD (by kernel_rfl) (by omega)) (Ai (zB (q:=lr_r_products_3 lo hi k) (lp_r_products_3 lo hi k 68 (r_products_3_ne _ _ _)) h13) trivial)) (by kernel_rfl)
 |x3 =>
  try dsimp only
  exact zl [.loop .ret (sd45009 2 1 0 3 lo k hi)] (Ai (zB (q:=lr_r_products_3 lo hi k) (lp_r_products_3 lo hi k 68 (r_products_3_ne _ _ _)) h13) trivial) (by kernel_rfl)
 |x4 =>
  try dsimp only
  exact zl [.loop (.exit 0) (sd45010 0 1 hi lo k)] (Ai (zB (q:=lr_r_products_3 lo hi k) (lp_r_products_3 lo hi k 68 (r_products_3_ne _ _ _)) h13) trivial) (by kernel_rfl)
 |out =>
  exact absurd h13 ((r_products_3_ne _ _ _))

theorem rprod_len (lo hi:Int) (k:Sn):(z7 lo hi k).1.l.length≤66:=by
 have h:=ivt_r_products_3 lo hi k 68 (r_products_3_ne lo hi k)
 unfold z7
 cases hr:r_products_3 lo hi k 68<;>rw [hr] at h<;>simp only [iv_r_products_3] at h<;>simp [GS.some_l,GS.nil]<;>first|omega|exact absurd hr (r_products_3_ne lo hi k)

def sd45012 (ν0 ν1 ν2:Nat) (μ0:GS Sn) (μ1:GS Sn) (μ2:List Sn) (μ3:Nat) (μ4:Sn):St:=⟨107,[(83,B false),(82,I ((μ0.l.length:Nat):Int)),(81,.sl μ0.nl (μ0.l.map Sn.D) (zsl μ0.nl 2) none),(80,I ((μ0.l.length:Nat):Int)),(0,.sl μ1.nl (μ1.l.map Sn.D) (zsl μ1.nl 2) none),(3,.lref ν0 0 2 0),(6,.lsl ν1 0 μ2.length 2 none),(7,I ((μ3:Nat):Int)),(10,.sl μ0.nl (μ0.l.map Sn.D) (zsl μ0.nl 2) none),(12,I ((μ0.l.length:Nat):Int))],[(ν0,⟨[.agg [I μ4.lo,I μ4.hi]],2,false⟩),(ν1,⟨μ2.map Sn.D,2,false⟩)],ν2,ν0⟩

noncomputable def lp18_15:Code:=subC [1,1,1,1,0,1,0,0,1,0,0,1,1,1,1,1,0,0] (bodyC Tryz.f18)

def sd45014 (ν0 ν1 ν2 ν3 ν4:Nat) (μ0:Nat) (μ1:List Sn) (μ2:Sn) (μ3:GS Sn) (μ4:GS Sn) (μ5:Nat) (μ6:Sn):St:=⟨107,[(12,I ((μ0+1:Nat):Int)),(85,I ((μ0+1:Nat):Int)),(84,I ((μ0:Nat):Int)),(6,.lsl ν0 0 ((μ1++[(⟨w64 (0 - μ2.hi),w64 (0 - μ2.lo)⟩:Sn)]).length) 2 none),(101,.lsl ν0 0 ((μ1++[(⟨w64 (0 - μ2.hi),w64 (0 - μ2.lo)⟩:Sn)]).length) 2 none),(100,.lsl ν1 0 1 2 (some 1)),(99,.agg [I (w64 (0 - μ2.hi)),I (w64 (0 - μ2.lo))]),(98,I (w64 (0 - μ2.lo))),(97,I μ2.lo),(96,.ptr (I μ2.lo)),(95,.ptr (.agg [I μ2.lo,I μ2.hi])),(94,I ((μ0:Nat):Int)),(93,.sl μ3.nl (μ3.l.map Sn.D) (zsl μ3.nl 2) none),(92,I (w64 (0 - μ2.hi))),(91,I μ2.hi),(90,.ptr (I μ2.hi)),(89,.ptr (.agg [I μ2.lo,I μ2.hi])),(88,I ((μ0:Nat):Int)),(87,.sl μ3.nl (μ3.l.map Sn.D) (zsl μ3.nl 2) none),(86,.lsl ν2 0 μ1.length 2 none),(83,B true),(82,I ((μ3.l.length:Nat):Int)),(81,.sl μ3.nl (μ3.l.map Sn.D) (zsl μ3.nl 2) none),(80,I ((μ0:Nat):Int)),(0,.sl μ4.nl (μ4.l.map Sn.D) (zsl μ4.nl 2) none),(3,.lref ν3 0 2 0),(6,.lsl ν2 0 μ1.length 2 none),(7,I ((μ5:Nat):Int)),(10,.sl μ3.nl (μ3.l.map Sn.D) (zsl μ3.nl 2) none),(12,I ((μ0:Nat):Int))],[(ν3,⟨[.agg [I μ6.lo,I μ6.hi]],2,false⟩),(ν1,⟨[.agg [I (w64 (0 - μ2.hi)),I (w64 (0 - μ2.lo))]],2,false⟩),(ν0,⟨(μ1++[(⟨w64 (0 - μ2.hi),w64 (0 - μ2.lo)⟩:Sn)]).map Sn.D,2,false⟩)],ν4,ν3⟩

inductive LR_r_Times_15 where
 |x0 (xB:List Sn)
instance:Inhabited LR_r_Times_15:=⟨.x0 default⟩
def r_Times_15:List Sn→(List Sn)→LR_r_Times_15
 |[],xB=>.x0 xB
 |x15::we,xB =>
  r_Times_15 we (xB++[(⟨w64 (0 - x15.hi),w64 (0 - x15.lo)⟩:Sn)])
def lr_r_Times_15 (r:GS Sn) (k:Sn) (i7:Nat) (w5:GS Sn):LR_r_Times_15→Exit × St
 |.x0 xB=>((.exit 2),(sd45012 0 1 2 w5 r xB i7 k))
def iv_r_Times_15 (r:GS Sn) (k:Sn) (i7:Nat) (w5:GS Sn):LR_r_Times_15→Prop
 |.x0 xB=>(xB.length≤132 * i7+66+w5.l.length)
theorem lp_r_Times_15 (r:GS Sn) (k:Sn) (i7:Nat) (w5:GS Sn):∀(we:List Sn) (i15:Nat) (xB:List Sn) (hd15:w5.l.drop i15=we) (hi15:i15≤w5.l.length) (hm66:w5.l.length≤66) (hi64:i7 < 64) (hg15_v15_0:xB.length≤132 * i7+66+i15) (hL15:w5.l.length≤1099511627776),(lim cfg).loop 18 lp18_15 ⟨107,[(0,.sl r.nl (r.l.map Sn.D) (zsl r.nl 2) none),(3,.lref 0 0 2 0),(6,.lsl 1 0 xB.length 2 none),(7,I (i7:Int)),(10,.sl w5.nl (w5.l.map Sn.D) (zsl w5.nl 2) none),(12,I (i15:Int))],[(0,⟨[.agg [I k.lo,I k.hi]],2,false⟩),(1,⟨xB.map Sn.D,2,false⟩)],2,0⟩=some (lr_r_Times_15 r k i7 w5 (r_Times_15 we xB)):=by
 intro we
 induction we with
 |nil =>
  intro i15 xB hd15 hi15 hm66 hi64 hg15_v15_0 hL15
  unfold r_Times_15
  obtain rfl:i15=w5.l.length:=nil_eq hd15 hi15
  exact zr [.rw 82 (I (w5.l.length:Int)),.dec false] (Ai (lt_no hd15) (Ai (zk Sn.D w5) trivial)) (by kernel_rfl)
 |cons x15 we ih =>
  intro i15 xB hd15 hi15 hm66 hi64 hg15_v15_0 hL15
  have hlt15:=ze hd15
  unfold r_Times_15
  exact zw (ks:=[0,3,6,7,10,12]) (st':=(sd45014 3 2 1 0 4 i15 xB x15 w5 r i7 k)) [.rw 82 (I (w5.l.length:Int)),.dec true,.el (.agg [I x15.lo,I x15.hi]),.el (.agg [I x15.lo,I x15.hi]),.op (some 101) ⟨.lsl 3 0 ((xB++[(⟨w64 (0 - x15.hi),w64 (0 - x15.lo)⟩:Sn)]).length) 2 none,[(1,none),(3,some ⟨(xB++[(⟨w64 (0 - x15.hi),w64 (0 - x15.lo)⟩:Sn)]).map Sn.D,2,false⟩)],[1,2],4⟩,.rw 85 (I ((i15+1:Nat):Int))] (Ai (zZ (i:=i15) (by have:=ze hd15;omega)) (Ai (app_row (f:=Sn.D) (te:=zG) (gO:=zn [(0,⟨[.agg [I k.lo,I k.hi]],2,false⟩),(1,⟨xB.map Sn.D,2,false⟩),(2,⟨[.agg [I (w64 (0 - x15.hi)),I (w64 (0 - x15.lo))]],2,false⟩)]) (nxt:=3) (o:=1) (o2:=2) (fz:=false) z6 xB (⟨w64 (0 - x15.hi),w64 (0 - x15.lo)⟩:Sn) (by kernel_rfl) (by kernel_rfl) rfl (by kernel_rfl) (by decide) ⟨by simp only [zG,big]<;>(omega),by simp only [big]<;>(omega)⟩) (Ai (el_at (s:=w5) (f:=Sn.D) (k:=2) hd15) (Ai (el_at (s:=w5) (f:=Sn.D) (k:=2) hd15) (Ai (yl hd15) (Ai (zk Sn.D w5) trivial)))))) (by kernel_rfl) (by (simp only [sd45014,go_sem,length_set,Nat.reduceAdd,Nat.reduceEqDiff,Nat.reduceLT,Nat.reduceLeDiff,bI2,zc.idsL,zc.renL,zc.snapAll,z6.idsL,z6.renL,z6.snapAll])<;>rfl) (ih (i15+1) (xB++[(⟨w64 (0 - x15.hi),w64 (0 - x15.lo)⟩:Sn)]) (zf hd15) (ze hd15) (by omega) (by omega) (by simp only [length_append,length_cons,length_nil] at *<;>omega) (by omega)) (by kernel_rfl)
theorem ivt_r_Times_15 (r:GS Sn) (k:Sn) (i7:Nat) (w5:GS Sn):∀(we:List Sn) (i15:Nat) (xB:List Sn) (hd15:w5.l.drop i15=we) (hi15:i15≤w5.l.length) (hm66:w5.l.length≤66) (hi64:i7 < 64) (hg15_v15_0:xB.length≤132 * i7+66+i15) (hL15:w5.l.length≤1099511627776),iv_r_Times_15 r k i7 w5 (r_Times_15 we xB):=by
 intro we
 induction we with
 |nil =>
  intro i15 xB hd15 hi15 hm66 hi64 hg15_v15_0 hL15
  unfold r_Times_15
  obtain rfl:i15=w5.l.length:=nil_eq hd15 hi15
  exact hg15_v15_0
 |cons x15 we ih =>
  intro i15 xB hd15 hi15 hm66 hi64 hg15_v15_0 hL15
  have hlt15:=ze hd15
  unfold r_Times_15
  exact ih (i15+1) (xB++[(⟨w64 (0 - x15.hi),w64 (0 - x15.lo)⟩:Sn)]) (zf hd15) (ze hd15) (by omega) (by omega) (by simp only [length_append,length_cons,length_nil] at *<;>omega) (by omega)

def sd45013 (ν0 ν1:Nat) (μ0:GS Sn) (μ1:GS Sn) (μ2:Nat) (μ3:Sn):St:=⟨107,[(83,B false),(82,I ((μ0.l.length:Nat):Int)),(81,.sl μ0.nl (μ0.l.map Sn.D) (zsl μ0.nl 2) none),(80,I ((μ0.l.length:Nat):Int)),(0,.sl μ1.nl (μ1.l.map Sn.D) (zsl μ1.nl 2) none),(3,.lref ν0 0 2 0),(6,.sl true [] 0 none),(7,I ((μ2:Nat):Int)),(10,.sl μ0.nl (μ0.l.map Sn.D) (zsl μ0.nl 2) none),(12,I ((μ0.l.length:Nat):Int))],[(ν0,⟨[.agg [I μ3.lo,I μ3.hi]],2,false⟩)],ν1,ν0⟩

inductive LR_r_Times_15p1 where
 |x0 (xm:List Sn)
 |x1
instance:Inhabited LR_r_Times_15p1:=⟨.x0 default⟩
def r_Times_15p1a:List Sn→(List Sn)→LR_r_Times_15p1
 |[],xm=>.x0 xm
 |xS::xw,xm =>
  r_Times_15p1a xw (xm++[(⟨w64 (0 - xS.hi),w64 (0 - xS.lo)⟩:Sn)])
def r_Times_15p1:List Sn→LR_r_Times_15p1
 |[]=>.x1
 |xS::xw =>
  r_Times_15p1a xw [(⟨w64 (0 - xS.hi),w64 (0 - xS.lo)⟩:Sn)]
def lr_r_Times_15p1 (r:GS Sn) (k:Sn) (i7:Nat) (x8:GS Sn):LR_r_Times_15p1→Exit × St
 |.x0 xm=>((.exit 2),(sd45012 0 1 2 x8 r xm i7 k))
 |.x1=>((.exit 2),(sd45013 0 1 x8 r i7 k))
def iv_r_Times_15p1 (r:GS Sn) (k:Sn) (i7:Nat) (x8:GS Sn):LR_r_Times_15p1→Prop
 |.x0 xm=>(xm.length≤132 * i7+66+x8.l.length)
 |.x1=>True
theorem lp_r_Times_15p1a (r:GS Sn) (k:Sn) (i7:Nat) (x8:GS Sn):∀(xw:List Sn) (xP:Nat) (xm:List Sn) (xC:x8.l.drop xP=xw) (wa:xP≤x8.l.length) (hm66:x8.l.length≤66) (hi64:i7 < 64) (hg15p1_va15p1_0:xm.length≤132 * i7+66+xP) (hL15p1:x8.l.length≤1099511627776),(lim cfg).loop 18 lp18_15 ⟨107,[(0,.sl r.nl (r.l.map Sn.D) (zsl r.nl 2) none),(3,.lref 0 0 2 0),(6,.lsl 1 0 xm.length 2 none),(7,I (i7:Int)),(10,.sl x8.nl (x8.l.map Sn.D) (zsl x8.nl 2) none),(12,I (xP:Int))],[(0,⟨[.agg [I k.lo,I k.hi]],2,false⟩),(1,⟨xm.map Sn.D,2,false⟩)],2,0⟩=some (lr_r_Times_15p1 r k i7 x8 (r_Times_15p1a xw xm)):=by
 intro xw
 induction xw with
 |nil =>
  intro xP xm xC wa hm66 hi64 hg15p1_va15p1_0 hL15p1
  unfold r_Times_15p1a
  obtain rfl:xP=x8.l.length:=nil_eq xC wa
  exact zr [.rw 82 (I (x8.l.length:Int)),.dec false] (Ai (lt_no xC) (Ai (zk Sn.D x8) trivial)) (by kernel_rfl)
 |cons xS xw ih =>
  intro xP xm xC wa hm66 hi64 hg15p1_va15p1_0 hL15p1
  have hlt15p1:=ze xC
  unfold r_Times_15p1a
  exact zw (ks:=[0,3,6,7,10,12]) (st':=(sd45014 3 2 1 0 4 xP xm xS x8 r i7 k)) [.rw 82 (I (x8.l.length:Int)),.dec true,.el (.agg [I xS.lo,I xS.hi]),.el (.agg [I xS.lo,I xS.hi]),.op (some 101) ⟨.lsl 3 0 ((xm++[(⟨w64 (0 - xS.hi),w64 (0 - xS.lo)⟩:Sn)]).length) 2 none,[(1,none),(3,some ⟨(xm++[(⟨w64 (0 - xS.hi),w64 (0 - xS.lo)⟩:Sn)]).map Sn.D,2,false⟩)],[1,2],4⟩,.rw 85 (I ((xP+1:Nat):Int))] (Ai (zZ (i:=xP) (by have:=ze xC;omega)) (Ai (app_row (f:=Sn.D) (te:=zG) (gO:=zn [(0,⟨[.agg [I k.lo,I k.hi]],2,false⟩),(1,⟨xm.map Sn.D,2,false⟩),(2,⟨[.agg [I (w64 (0 - xS.hi)),I (w64 (0 - xS.lo))]],2,false⟩)]) (nxt:=3) (o:=1) (o2:=2) (fz:=false) z6 xm (⟨w64 (0 - xS.hi),w64 (0 - xS.lo)⟩:Sn) (by kernel_rfl) (by kernel_rfl) rfl (by kernel_rfl) (by decide) ⟨by simp only [zG,big]<;>(omega),by simp only [big]<;>(omega)⟩) (Ai (el_at (s:=x8) (f:=Sn.D) (k:=2) xC) (Ai (el_at (s:=x8) (f:=Sn.D) (k:=2) xC) (Ai (yl xC) (Ai (zk Sn.D x8) trivial)))))) (by kernel_rfl) (by (simp only [sd45014,go_sem,length_set,Nat.reduceAdd,Nat.reduceEqDiff,Nat.reduceLT,Nat.reduceLeDiff,bI2,zc.idsL,zc.renL,zc.snapAll,z6.idsL,z6.renL,z6.snapAll])<;>rfl) (ih (xP+1) (xm++[(⟨w64 (0 - xS.hi),w64 (0 - xS.lo)⟩:Sn)]) (zf xC) (ze xC) (by omega) (by omega) (by simp only [length_append,length_cons,length_nil] at *<;>omega) (by omega)) (by kernel_rfl)
theorem ivt_r_Times_15p1a (r:GS Sn) (k:Sn) (i7:Nat) (x8:GS Sn):∀(xw:List Sn) (xP:Nat) (xm:List Sn) (xC:x8.l.drop xP=xw) (wa:xP≤x8.l.length) (hm66:x8.l.length≤66) (hi64:i7 < 64) (hg15p1_va15p1_0:xm.length≤132 * i7+66+xP) (hL15p1:x8.l.length≤1099511627776),iv_r_Times_15p1 r k i7 x8 (r_Times_15p1a xw xm):=by
 intro xw
 induction xw with
 |nil =>
  intro xP xm xC wa hm66 hi64 hg15p1_va15p1_0 hL15p1
  unfold r_Times_15p1a
  obtain rfl:xP=x8.l.length:=nil_eq xC wa
  exact hg15p1_va15p1_0
 |cons xS xw ih =>
  intro xP xm xC wa hm66 hi64 hg15p1_va15p1_0 hL15p1
  have hlt15p1:=ze xC
  unfold r_Times_15p1a
  exact ih (xP+1) (xm++[(⟨w64 (0 - xS.hi),w64 (0 - xS.lo)⟩:Sn)]) (zf xC) (ze xC) (by omega) (by omega) (by simp only [length_append,length_cons,length_nil] at *<;>omega) (by omega)
theorem lp_r_Times_15p1 (r:GS Sn) (k:Sn) (i7:Nat) (x8:GS Sn):∀(xw:List Sn) (xP:Nat) (xC:x8.l.drop xP=xw) (wa:xP≤x8.l.length) (hm66:x8.l.length≤66) (hi64:i7 < 64) (hL15p1:x8.l.length≤1099511627776),(lim cfg).loop 18 lp18_15 ⟨107,[(0,.sl r.nl (r.l.map Sn.D) (zsl r.nl 2) none),(3,.lref 0 0 2 0),(6,.sl true [] 0 none),(7,I (i7:Int)),(10,.sl x8.nl (x8.l.map Sn.D) (zsl x8.nl 2) none),(12,I (xP:Int))],[(0,⟨[.agg [I k.lo,I k.hi]],2,false⟩)],1,0⟩=some (lr_r_Times_15p1 r k i7 x8 (r_Times_15p1 xw)):=by
 intro xw
 induction xw with
 |nil =>
  intro xP xC wa hm66 hi64 hL15p1
  unfold r_Times_15p1
  obtain rfl:xP=x8.l.length:=nil_eq xC wa
  exact zr [.rw 82 (I (x8.l.length:Int)),.dec false] (Ai (lt_no xC) (Ai (zk Sn.D x8) trivial)) (by kernel_rfl)
 |cons xS xw ih =>
  intro xP xC wa hm66 hi64 hL15p1
  have hlt15p1:=ze xC
  unfold r_Times_15p1
  dsimp only
  exact po_turn [.rw 82 (I (x8.l.length:Int)),.dec true,.el (.agg [I xS.lo,I xS.hi]),.el (.agg [I xS.lo,I xS.hi]),.rw 85 (I ((xP+1:Nat):Int))] (Ai (zZ (i:=xP) (by have:=ze xC;omega)) (Ai (el_at (s:=x8) (f:=Sn.D) (k:=2) xC) (Ai (el_at (s:=x8) (f:=Sn.D) (k:=2) xC) (Ai (yl xC) (Ai (zk Sn.D x8) trivial))))) (lp_r_Times_15p1a r k i7 x8 _ (xP+1) [(⟨w64 (0 - xS.hi),w64 (0 - xS.lo)⟩:Sn)] (zf xC) (ze xC) (by omega) (by omega) (by simp only [length_append,length_cons,length_nil] at *<;>omega) (by omega)) (by kernel_rfl)
theorem ivt_r_Times_15p1 (r:GS Sn) (k:Sn) (i7:Nat) (x8:GS Sn):∀(xw:List Sn) (xP:Nat) (xC:x8.l.drop xP=xw) (wa:xP≤x8.l.length) (hm66:x8.l.length≤66) (hi64:i7 < 64) (hL15p1:x8.l.length≤1099511627776),iv_r_Times_15p1 r k i7 x8 (r_Times_15p1 xw):=by
 intro xw
 induction xw with
 |nil =>
  intro xP xC wa hm66 hi64 hL15p1
  unfold r_Times_15p1
  obtain rfl:xP=x8.l.length:=nil_eq xC wa
  exact trivial
 |cons xS xw ih =>
  intro xP xC wa hm66 hi64 hL15p1
  have hlt15p1:=ze xC
  unfold r_Times_15p1
  dsimp only
  exact ivt_r_Times_15p1a r k i7 x8 _ (xP+1) [(⟨w64 (0 - xS.hi),w64 (0 - xS.lo)⟩:Sn)] (zf xC) (ze xC) (by omega) (by omega) (by simp only [length_append,length_cons,length_nil] at *<;>omega) (by omega)

def sd45023 (ν0 ν1 ν2:Nat) (μ0:GS Sn) (μ1:List Sn) (μ2:Sn):St:=⟨107,[(34,B false),(33,I ((μ0.l.length:Nat):Int)),(32,.sl μ0.nl (μ0.l.map Sn.D) (zsl μ0.nl 2) none),(31,I ((μ0.l.length:Nat):Int)),(0,.sl μ0.nl (μ0.l.map Sn.D) (zsl μ0.nl 2) none),(3,.lref ν0 0 2 0),(6,.lsl ν1 0 μ1.length 2 none),(7,I ((μ0.l.length:Nat):Int))],[(ν0,⟨[.agg [I μ2.lo,I μ2.hi]],2,false⟩),(ν1,⟨μ1.map Sn.D,2,false⟩)],ν2,ν0⟩

def sd45024 (ν0 ν1 ν2:Nat) (μ0:Sn) (μ1:Sn) (μ2:Nat) (μ3:GS Sn) (μ4:List Sn):St:=⟨107,[(5,I 2),(4,.sl true [] 0 none),(76,B true),(75,B true),(74,B false),(73,B false),(72,B false),(71,B true),(11,B false),(10,.sl (((z7 (zb (w64 (0 - μ0.hi)) 1) (w64 (0 - μ0.lo)) μ1).1).nl) ((((z7 (zb (w64 (0 - μ0.hi)) 1) (w64 (0 - μ0.lo)) μ1).1).l).map Sn.D) (zsl (((z7 (zb (w64 (0 - μ0.hi)) 1) (w64 (0 - μ0.lo)) μ1).1).nl) 2) none),(70,B false),(69,.sl (((z7 (zb (w64 (0 - μ0.hi)) 1) (w64 (0 - μ0.lo)) μ1).1).nl) ((((z7 (zb (w64 (0 - μ0.hi)) 1) (w64 (0 - μ0.lo)) μ1).1).l).map Sn.D) (zsl (((z7 (zb (w64 (0 - μ0.hi)) 1) (w64 (0 - μ0.lo)) μ1).1).nl) 2) none),(53,.tup [.sl (((z7 (zb (w64 (0 - μ0.hi)) 1) (w64 (0 - μ0.lo)) μ1).1).nl) ((((z7 (zb (w64 (0 - μ0.hi)) 1) (w64 (0 - μ0.lo)) μ1).1).l).map Sn.D) (zsl (((z7 (zb (w64 (0 - μ0.hi)) 1) (w64 (0 - μ0.lo)) μ1).1).nl) 2) none,B ((z7 (zb (w64 (0 - μ0.hi)) 1) (w64 (0 - μ0.lo)) μ1).2)]),(68,.tup [.sl (((z7 (zb (w64 (0 - μ0.hi)) 1) (w64 (0 - μ0.lo)) μ1).1).nl) ((((z7 (zb (w64 (0 - μ0.hi)) 1) (w64 (0 - μ0.lo)) μ1).1).l).map Sn.D) (zsl (((z7 (zb (w64 (0 - μ0.hi)) 1) (w64 (0 - μ0.lo)) μ1).1).nl) 2) none,B ((z7 (zb (w64 (0 - μ0.hi)) 1) (w64 (0 - μ0.lo)) μ1).2)]),(67,.agg [I μ1.lo,I μ1.hi]),(66,I (w64 (0 - μ0.lo))),(65,I μ0.lo),(64,.ptr (I μ0.lo)),(63,.ptr (.agg [I μ0.lo,I μ0.hi])),(62,I ((μ2:Nat):Int)),(61,.sl μ3.nl (μ3.l.map Sn.D) (zsl μ3.nl 2) none),(60,I (zb (w64 (0 - μ0.hi)) 1)),(59,I (w64 (0 - μ0.hi))),(58,I μ0.hi),(57,.ptr (I μ0.hi)),(56,.ptr (.agg [I μ0.lo,I μ0.hi])),(55,I ((μ2:Nat):Int)),(54,.sl μ3.nl (μ3.l.map Sn.D) (zsl μ3.nl 2) none),(9,B true),(8,.sl (((z7 (zb μ0.lo 0) μ0.hi μ1).1).nl) ((((z7 (zb μ0.lo 0) μ0.hi μ1).1).l).map Sn.D) (zsl (((z7 (zb μ0.lo 0) μ0.hi μ1).1).nl) 2) none),(52,B true),(51,.sl (((z7 (zb μ0.lo 0) μ0.hi μ1).1).nl) ((((z7 (zb μ0.lo 0) μ0.hi μ1).1).l).map Sn.D) (zsl (((z7 (zb μ0.lo 0) μ0.hi μ1).1).nl) 2) none),(37,.tup [.sl (((z7 (zb μ0.lo 0) μ0.hi μ1).1).nl) ((((z7 (zb μ0.lo 0) μ0.hi μ1).1).l).map Sn.D) (zsl (((z7 (zb μ0.lo 0) μ0.hi μ1).1).nl) 2) none,B ((z7 (zb μ0.lo 0) μ0.hi μ1).2)]),(50,.tup [.sl (((z7 (zb μ0.lo 0) μ0.hi μ1).1).nl) ((((z7 (zb μ0.lo 0) μ0.hi μ1).1).l).map Sn.D) (zsl (((z7 (zb μ0.lo 0) μ0.hi μ1).1).nl) 2) none,B ((z7 (zb μ0.lo 0) μ0.hi μ1).2)]),(49,.agg [I μ1.lo,I μ1.hi]),(48,I μ0.hi),(47,.ptr (I μ0.hi)),(46,.ptr (.agg [I μ0.lo,I μ0.hi])),(45,I ((μ2:Nat):Int)),(44,.sl μ3.nl (μ3.l.map Sn.D) (zsl μ3.nl 2) none),(43,I (zb μ0.lo 0)),(42,I μ0.lo),(41,.ptr (I μ0.lo)),(40,.ptr (.agg [I μ0.lo,I μ0.hi])),(39,I ((μ2:Nat):Int)),(38,.sl μ3.nl (μ3.l.map Sn.D) (zsl μ3.nl 2) none),(34,B true),(33,I ((μ3.l.length:Nat):Int)),(32,.sl μ3.nl (μ3.l.map Sn.D) (zsl μ3.nl 2) none),(31,I ((μ2:Nat):Int)),(0,.sl μ3.nl (μ3.l.map Sn.D) (zsl μ3.nl 2) none),(3,.lref ν0 0 2 0),(6,.lsl ν1 0 μ4.length 2 none),(7,I ((μ2:Nat):Int))],[(ν0,⟨[.agg [I μ1.lo,I μ1.hi]],2,false⟩),(ν1,⟨μ4.map Sn.D,2,false⟩)],ν2,ν0⟩

def sd45025 (ν0 ν1 ν2:Nat) (μ0:Sn) (μ1:Sn) (μ2:Nat) (μ3:GS Sn) (μ4:List Sn):St:=⟨107,[(5,I 2),(4,.sl true [] 0 none),(76,B true),(75,.tup []),(74,.tup []),(73,B true),(72,B true),(71,B false),(11,B true),(10,.sl (((z7 (zb (w64 (0 - μ0.hi)) 1) (w64 (0 - μ0.lo)) μ1).1).nl) ((((z7 (zb (w64 (0 - μ0.hi)) 1) (w64 (0 - μ0.lo)) μ1).1).l).map Sn.D) (zsl (((z7 (zb (w64 (0 - μ0.hi)) 1) (w64 (0 - μ0.lo)) μ1).1).nl) 2) none),(70,B true),(69,.sl (((z7 (zb (w64 (0 - μ0.hi)) 1) (w64 (0 - μ0.lo)) μ1).1).nl) ((((z7 (zb (w64 (0 - μ0.hi)) 1) (w64 (0 - μ0.lo)) μ1).1).l).map Sn.D) (zsl (((z7 (zb (w64 (0 - μ0.hi)) 1) (w64 (0 - μ0.lo)) μ1).1).nl) 2) none),(53,.tup [.sl (((z7 (zb (w64 (0 - μ0.hi)) 1) (w64 (0 - μ0.lo)) μ1).1).nl) ((((z7 (zb (w64 (0 - μ0.hi)) 1) (w64 (0 - μ0.lo)) μ1).1).l).map Sn.D) (zsl (((z7 (zb (w64 (0 - μ0.hi)) 1) (w64 (0 - μ0.lo)) μ1).1).nl) 2) none,B ((z7 (zb (w64 (0 - μ0.hi)) 1) (w64 (0 - μ0.lo)) μ1).2)]),(68,.tup [.sl (((z7 (zb (w64 (0 - μ0.hi)) 1) (w64 (0 - μ0.lo)) μ1).1).nl) ((((z7 (zb (w64 (0 - μ0.hi)) 1) (w64 (0 - μ0.lo)) μ1).1).l).map Sn.D) (zsl (((z7 (zb (w64 (0 - μ0.hi)) 1) (w64 (0 - μ0.lo)) μ1).1).nl) 2) none,B ((z7 (zb (w64 (0 - μ0.hi)) 1) (w64 (0 - μ0.lo)) μ1).2)]),(67,.agg [I μ1.lo,I μ1.hi]),(66,I (w64 (0 - μ0.lo))),(65,I μ0.lo),(64,.ptr (I μ0.lo)),(63,.ptr (.agg [I μ0.lo,I μ0.hi])),(62,I ((μ2:Nat):Int)),(61,.sl μ3.nl (μ3.l.map Sn.D) (zsl μ3.nl 2) none),(60,I (zb (w64 (0 - μ0.hi)) 1)),(59,I (w64 (0 - μ0.hi))),(58,I μ0.hi),(57,.ptr (I μ0.hi)),(56,.ptr (.agg [I μ0.lo,I μ0.hi])),(55,I ((μ2:Nat):Int)),(54,.sl μ3.nl (μ3.l.map Sn.D) (zsl μ3.nl 2) none),(9,B false),(8,.sl (((z7 (zb μ0.lo 0) μ0.hi μ1).1).nl) ((((z7 (zb μ0.lo 0) μ0.hi μ1).1).l).map Sn.D) (zsl (((z7 (zb μ0.lo 0) μ0.hi μ1).1).nl) 2) none),(52,B false),(51,.sl (((z7 (zb μ0.lo 0) μ0.hi μ1).1).nl) ((((z7 (zb μ0.lo 0) μ0.hi μ1).1).l).map Sn.D) (zsl (((z7 (zb μ0.lo 0) μ0.hi μ1).1).nl) 2) none),(37,.tup [.sl (((z7 (zb μ0.lo 0) μ0.hi μ1).1).nl) ((((z7 (zb μ0.lo 0) μ0.hi μ1).1).l).map Sn.D) (zsl (((z7 (zb μ0.lo 0) μ0.hi μ1).1).nl) 2) none,B ((z7 (zb μ0.lo 0) μ0.hi μ1).2)]),(50,.tup [.sl (((z7 (zb μ0.lo 0) μ0.hi μ1).1).nl) ((((z7 (zb μ0.lo 0) μ0.hi μ1).1).l).map Sn.D) (zsl (((z7 (zb μ0.lo 0) μ0.hi μ1).1).nl) 2) none,B ((z7 (zb μ0.lo 0) μ0.hi μ1).2)]),(49,.agg [I μ1.lo,I μ1.hi]),(48,I μ0.hi),(47,.ptr (I μ0.hi)),(46,.ptr (.agg [I μ0.lo,I μ0.hi])),(45,I ((μ2:Nat):Int)),(44,.sl μ3.nl (μ3.l.map Sn.D) (zsl μ3.nl 2) none),(43,I (zb μ0.lo 0)),(42,I μ0.lo),(41,.ptr (I μ0.lo)),(40,.ptr (.agg [I μ0.lo,I μ0.hi])),(39,I ((μ2:Nat):Int)),(38,.sl μ3.nl (μ3.l.map Sn.D) (zsl μ3.nl 2) none),(34,B true),(33,I ((μ3.l.length:Nat):Int)),(32,.sl μ3.nl (μ3.l.map Sn.D) (zsl μ3.nl 2) none),(31,I ((μ2:Nat):Int)),(0,.sl μ3.nl (μ3.l.map Sn.D) (zsl μ3.nl 2) none),(3,.lref ν0 0 2 0),(6,.lsl ν1 0 μ4.length 2 none),(7,I ((μ2:Nat):Int))],[(ν0,⟨[.agg [I μ1.lo,I μ1.hi]],2,false⟩),(ν1,⟨μ4.map Sn.D,2,false⟩)],ν2,ν0⟩

def sd45026 (ν0 ν1 ν2:Nat) (μ0:Sn) (μ1:Sn) (μ2:Nat) (μ3:GS Sn) (μ4:List Sn):St:=⟨107,[(5,I 2),(4,.sl true [] 0 none),(76,B true),(75,.tup []),(74,.tup []),(73,B true),(72,B true),(71,B false),(11,B false),(10,.sl (((z7 (zb (w64 (0 - μ0.hi)) 1) (w64 (0 - μ0.lo)) μ1).1).nl) ((((z7 (zb (w64 (0 - μ0.hi)) 1) (w64 (0 - μ0.lo)) μ1).1).l).map Sn.D) (zsl (((z7 (zb (w64 (0 - μ0.hi)) 1) (w64 (0 - μ0.lo)) μ1).1).nl) 2) none),(70,B false),(69,.sl (((z7 (zb (w64 (0 - μ0.hi)) 1) (w64 (0 - μ0.lo)) μ1).1).nl) ((((z7 (zb (w64 (0 - μ0.hi)) 1) (w64 (0 - μ0.lo)) μ1).1).l).map Sn.D) (zsl (((z7 (zb (w64 (0 - μ0.hi)) 1) (w64 (0 - μ0.lo)) μ1).1).nl) 2) none),(53,.tup [.sl (((z7 (zb (w64 (0 - μ0.hi)) 1) (w64 (0 - μ0.lo)) μ1).1).nl) ((((z7 (zb (w64 (0 - μ0.hi)) 1) (w64 (0 - μ0.lo)) μ1).1).l).map Sn.D) (zsl (((z7 (zb (w64 (0 - μ0.hi)) 1) (w64 (0 - μ0.lo)) μ1).1).nl) 2) none,B ((z7 (zb (w64 (0 - μ0.hi)) 1) (w64 (0 - μ0.lo)) μ1).2)]),(68,.tup [.sl (((z7 (zb (w64 (0 - μ0.hi)) 1) (w64 (0 - μ0.lo)) μ1).1).nl) ((((z7 (zb (w64 (0 - μ0.hi)) 1) (w64 (0 - μ0.lo)) μ1).1).l).map Sn.D) (zsl (((z7 (zb (w64 (0 - μ0.hi)) 1) (w64 (0 - μ0.lo)) μ1).1).nl) 2) none,B ((z7 (zb (w64 (0 - μ0.hi)) 1) (w64 (0 - μ0.lo)) μ1).2)]),(67,.agg [I μ1.lo,I μ1.hi]),(66,I (w64 (0 - μ0.lo))),(65,I μ0.lo),(64,.ptr (I μ0.lo)),(63,.ptr (.agg [I μ0.lo,I μ0.hi])),(62,I ((μ2:Nat):Int)),(61,.sl μ3.nl (μ3.l.map Sn.D) (zsl μ3.nl 2) none),(60,I (zb (w64 (0 - μ0.hi)) 1)),(59,I (w64 (0 - μ0.hi))),(58,I μ0.hi),(57,.ptr (I μ0.hi)),(56,.ptr (.agg [I μ0.lo,I μ0.hi])),(55,I ((μ2:Nat):Int)),(54,.sl μ3.nl (μ3.l.map Sn.D) (zsl μ3.nl 2) none),(9,B false),(8,.sl (((z7 (zb μ0.lo 0) μ0.hi μ1).1).nl) ((((z7 (zb μ0.lo 0) μ0.hi μ1).1).l).map Sn.D) (zsl (((z7 (zb μ0.lo 0) μ0.hi μ1).1).nl) 2) none),(52,B false),(51,.sl (((z7 (zb μ0.lo 0) μ0.hi μ1).1).nl) ((((z7 (zb μ0.lo 0) μ0.hi μ1).1).l).map Sn.D) (zsl (((z7 (zb μ0.lo 0) μ0.hi μ1).1).nl) 2) none),(37,.tup [.sl (((z7 (zb μ0.lo 0) μ0.hi μ1).1).nl) ((((z7 (zb μ0.lo 0) μ0.hi μ1).1).l).map Sn.D) (zsl (((z7 (zb μ0.lo 0) μ0.hi μ1).1).nl) 2) none,B ((z7 (zb μ0.lo 0) μ0.hi μ1).2)]),(50,.tup [.sl (((z7 (zb μ0.lo 0) μ0.hi μ1).1).nl) ((((z7 (zb μ0.lo 0) μ0.hi μ1).1).l).map Sn.D) (zsl (((z7 (zb μ0.lo 0) μ0.hi μ1).1).nl) 2) none,B ((z7 (zb μ0.lo 0) μ0.hi μ1).2)]),(49,.agg [I μ1.lo,I μ1.hi]),(48,I μ0.hi),(47,.ptr (I μ0.hi)),(46,.ptr (.agg [I μ0.lo,I μ0.hi])),(45,I ((μ2:Nat):Int)),(44,.sl μ3.nl (μ3.l.map Sn.D) (zsl μ3.nl 2) none),(43,I (zb μ0.lo 0)),(42,I μ0.lo),(41,.ptr (I μ0.lo)),(40,.ptr (.agg [I μ0.lo,I μ0.hi])),(39,I ((μ2:Nat):Int)),(38,.sl μ3.nl (μ3.l.map Sn.D) (zsl μ3.nl 2) none),(34,B true),(33,I ((μ3.l.length:Nat):Int)),(32,.sl μ3.nl (μ3.l.map Sn.D) (zsl μ3.nl 2) none),(31,I ((μ2:Nat):Int)),(0,.sl μ3.nl (μ3.l.map Sn.D) (zsl μ3.nl 2) none),(3,.lref ν0 0 2 0),(6,.lsl ν1 0 μ4.length 2 none),(7,I ((μ2:Nat):Int))],[(ν0,⟨[.agg [I μ1.lo,I μ1.hi]],2,false⟩),(ν1,⟨μ4.map Sn.D,2,false⟩)],ν2,ν0⟩

def sd45027 (ν0 ν1:Nat) (μ0:GS Sn) (μ1:Sn):St:=⟨107,[(34,B false),(33,I ((μ0.l.length:Nat):Int)),(32,.sl μ0.nl (μ0.l.map Sn.D) (zsl μ0.nl 2) none),(31,I ((μ0.l.length:Nat):Int)),(0,.sl μ0.nl (μ0.l.map Sn.D) (zsl μ0.nl 2) none),(3,.lref ν0 0 2 0),(6,.sl true [] 0 none),(7,I ((μ0.l.length:Nat):Int))],[(ν0,⟨[.agg [I μ1.lo,I μ1.hi]],2,false⟩)],ν1,ν0⟩

def sd45028 (ν0 ν1:Nat) (μ0:Sn) (μ1:Sn) (μ2:Nat) (μ3:GS Sn):St:=⟨107,[(5,I 2),(4,.sl true [] 0 none),(76,B true),(75,B true),(74,B false),(73,B false),(72,B false),(71,B true),(11,B false),(10,.sl (((z7 (zb (w64 (0 - μ0.hi)) 1) (w64 (0 - μ0.lo)) μ1).1).nl) ((((z7 (zb (w64 (0 - μ0.hi)) 1) (w64 (0 - μ0.lo)) μ1).1).l).map Sn.D) (zsl (((z7 (zb (w64 (0 - μ0.hi)) 1) (w64 (0 - μ0.lo)) μ1).1).nl) 2) none),(70,B false),(69,.sl (((z7 (zb (w64 (0 - μ0.hi)) 1) (w64 (0 - μ0.lo)) μ1).1).nl) ((((z7 (zb (w64 (0 - μ0.hi)) 1) (w64 (0 - μ0.lo)) μ1).1).l).map Sn.D) (zsl (((z7 (zb (w64 (0 - μ0.hi)) 1) (w64 (0 - μ0.lo)) μ1).1).nl) 2) none),(53,.tup [.sl (((z7 (zb (w64 (0 - μ0.hi)) 1) (w64 (0 - μ0.lo)) μ1).1).nl) ((((z7 (zb (w64 (0 - μ0.hi)) 1) (w64 (0 - μ0.lo)) μ1).1).l).map Sn.D) (zsl (((z7 (zb (w64 (0 - μ0.hi)) 1) (w64 (0 - μ0.lo)) μ1).1).nl) 2) none,B ((z7 (zb (w64 (0 - μ0.hi)) 1) (w64 (0 - μ0.lo)) μ1).2)]),(68,.tup [.sl (((z7 (zb (w64 (0 - μ0.hi)) 1) (w64 (0 - μ0.lo)) μ1).1).nl) ((((z7 (zb (w64 (0 - μ0.hi)) 1) (w64 (0 - μ0.lo)) μ1).1).l).map Sn.D) (zsl (((z7 (zb (w64 (0 - μ0.hi)) 1) (w64 (0 - μ0.lo)) μ1).1).nl) 2) none,B ((z7 (zb (w64 (0 - μ0.hi)) 1) (w64 (0 - μ0.lo)) μ1).2)]),(67,.agg [I μ1.lo,I μ1.hi]),(66,I (w64 (0 - μ0.lo))),(65,I μ0.lo),(64,.ptr (I μ0.lo)),(63,.ptr (.agg [I μ0.lo,I μ0.hi])),(62,I ((μ2:Nat):Int)),(61,.sl μ3.nl (μ3.l.map Sn.D) (zsl μ3.nl 2) none),(60,I (zb (w64 (0 - μ0.hi)) 1)),(59,I (w64 (0 - μ0.hi))),(58,I μ0.hi),(57,.ptr (I μ0.hi)),(56,.ptr (.agg [I μ0.lo,I μ0.hi])),(55,I ((μ2:Nat):Int)),(54,.sl μ3.nl (μ3.l.map Sn.D) (zsl μ3.nl 2) none),(9,B true),(8,.sl (((z7 (zb μ0.lo 0) μ0.hi μ1).1).nl) ((((z7 (zb μ0.lo 0) μ0.hi μ1).1).l).map Sn.D) (zsl (((z7 (zb μ0.lo 0) μ0.hi μ1).1).nl) 2) none),(52,B true),(51,.sl (((z7 (zb μ0.lo 0) μ0.hi μ1).1).nl) ((((z7 (zb μ0.lo 0) μ0.hi μ1).1).l).map Sn.D) (zsl (((z7 (zb μ0.lo 0) μ0.hi μ1).1).nl) 2) none),(37,.tup [.sl (((z7 (zb μ0.lo 0) μ0.hi μ1).1).nl) ((((z7 (zb μ0.lo 0) μ0.hi μ1).1).l).map Sn.D) (zsl (((z7 (zb μ0.lo 0) μ0.hi μ1).1).nl) 2) none,B ((z7 (zb μ0.lo 0) μ0.hi μ1).2)]),(50,.tup [.sl (((z7 (zb μ0.lo 0) μ0.hi μ1).1).nl) ((((z7 (zb μ0.lo 0) μ0.hi μ1).1).l).map Sn.D) (zsl (((z7 (zb μ0.lo 0) μ0.hi μ1).1).nl) 2) none,B ((z7 (zb μ0.lo 0) μ0.hi μ1).2)]),(49,.agg [I μ1.lo,I μ1.hi]),(48,I μ0.hi),(47,.ptr (I μ0.hi)),(46,.ptr (.agg [I μ0.lo,I μ0.hi])),(45,I ((μ2:Nat):Int)),(44,.sl μ3.nl (μ3.l.map Sn.D) (zsl μ3.nl 2) none),(43,I (zb μ0.lo 0)),(42,I μ0.lo),(41,.ptr (I μ0.lo)),(40,.ptr (.agg [I μ0.lo,I μ0.hi])),(39,I ((μ2:Nat):Int)),(38,.sl μ3.nl (μ3.l.map Sn.D) (zsl μ3.nl 2) none),(34,B true),(33,I ((μ3.l.length:Nat):Int)),(32,.sl μ3.nl (μ3.l.map Sn.D) (zsl μ3.nl 2) none),(31,I ((μ2:Nat):Int)),(0,.sl μ3.nl (μ3.l.map Sn.D) (zsl μ3.nl 2) none),(3,.lref ν0 0 2 0),(6,.sl true [] 0 none),(7,I ((μ2:Nat):Int))],[(ν0,⟨[.agg [I μ1.lo,I μ1.hi]],2,false⟩)],ν1,ν0⟩

def sd45029 (ν0 ν1:Nat) (μ0:Sn) (μ1:Sn) (μ2:Nat) (μ3:GS Sn):St:=⟨107,[(5,I 2),(4,.sl true [] 0 none),(76,B true),(75,.tup []),(74,.tup []),(73,B true),(72,B true),(71,B false),(11,B true),(10,.sl (((z7 (zb (w64 (0 - μ0.hi)) 1) (w64 (0 - μ0.lo)) μ1).1).nl) ((((z7 (zb (w64 (0 - μ0.hi)) 1) (w64 (0 - μ0.lo)) μ1).1).l).map Sn.D) (zsl (((z7 (zb (w64 (0 - μ0.hi)) 1) (w64 (0 - μ0.lo)) μ1).1).nl) 2) none),(70,B true),(69,.sl (((z7 (zb (w64 (0 - μ0.hi)) 1) (w64 (0 - μ0.lo)) μ1).1).nl) ((((z7 (zb (w64 (0 - μ0.hi)) 1) (w64 (0 - μ0.lo)) μ1).1).l).map Sn.D) (zsl (((z7 (zb (w64 (0 - μ0.hi)) 1) (w64 (0 - μ0.lo)) μ1).1).nl) 2) none),(53,.tup [.sl (((z7 (zb (w64 (0 - μ0.hi)) 1) (w64 (0 - μ0.lo)) μ1).1).nl) ((((z7 (zb (w64 (0 - μ0.hi)) 1) (w64 (0 - μ0.lo)) μ1).1).l).map Sn.D) (zsl (((z7 (zb (w64 (0 - μ0.hi)) 1) (w64 (0 - μ0.lo)) μ1).1).nl) 2) none,B ((z7 (zb (w64 (0 - μ0.hi)) 1) (w64 (0 - μ0.lo)) μ1).2)]),(68,.tup [.sl (((z7 (zb (w64 (0 - μ0.hi)) 1) (w64 (0 - μ0.lo)) μ1).1).nl) ((((z7 (zb (w64 (0 - μ0.hi)) 1) (w64 (0 - μ0.lo)) μ1).1).l).map Sn.D) (zsl (((z7 (zb (w64 (0 - μ0.hi)) 1) (w64 (0 - μ0.lo)) μ1).1).nl) 2) none,B ((z7 (zb (w64 (0 - μ0.hi)) 1) (w64 (0 - μ0.lo)) μ1).2)]),(67,.agg [I μ1.lo,I μ1.hi]),(66,I (w64 (0 - μ0.lo))),(65,I μ0.lo),(64,.ptr (I μ0.lo)),(63,.ptr (.agg [I μ0.lo,I μ0.hi])),(62,I ((μ2:Nat):Int)),(61,.sl μ3.nl (μ3.l.map Sn.D) (zsl μ3.nl 2) none),(60,I (zb (w64 (0 - μ0.hi)) 1)),(59,I (w64 (0 - μ0.hi))),(58,I μ0.hi),(57,.ptr (I μ0.hi)),(56,.ptr (.agg [I μ0.lo,I μ0.hi])),(55,I ((μ2:Nat):Int)),(54,.sl μ3.nl (μ3.l.map Sn.D) (zsl μ3.nl 2) none),(9,B false),(8,.sl (((z7 (zb μ0.lo 0) μ0.hi μ1).1).nl) ((((z7 (zb μ0.lo 0) μ0.hi μ1).1).l).map Sn.D) (zsl (((z7 (zb μ0.lo 0) μ0.hi μ1).1).nl) 2) none),(52,B false),(51,.sl (((z7 (zb μ0.lo 0) μ0.hi μ1).1).nl) ((((z7 (zb μ0.lo 0) μ0.hi μ1).1).l).map Sn.D) (zsl (((z7 (zb μ0.lo 0) μ0.hi μ1).1).nl) 2) none),(37,.tup [.sl (((z7 (zb μ0.lo 0) μ0.hi μ1).1).nl) ((((z7 (zb μ0.lo 0) μ0.hi μ1).1).l).map Sn.D) (zsl (((z7 (zb μ0.lo 0) μ0.hi μ1).1).nl) 2) none,B ((z7 (zb μ0.lo 0) μ0.hi μ1).2)]),(50,.tup [.sl (((z7 (zb μ0.lo 0) μ0.hi μ1).1).nl) ((((z7 (zb μ0.lo 0) μ0.hi μ1).1).l).map Sn.D) (zsl (((z7 (zb μ0.lo 0) μ0.hi μ1).1).nl) 2) none,B ((z7 (zb μ0.lo 0) μ0.hi μ1).2)]),(49,.agg [I μ1.lo,I μ1.hi]),(48,I μ0.hi),(47,.ptr (I μ0.hi)),(46,.ptr (.agg [I μ0.lo,I μ0.hi])),(45,I ((μ2:Nat):Int)),(44,.sl μ3.nl (μ3.l.map Sn.D) (zsl μ3.nl 2) none),(43,I (zb μ0.lo 0)),(42,I μ0.lo),(41,.ptr (I μ0.lo)),(40,.ptr (.agg [I μ0.lo,I μ0.hi])),(39,I ((μ2:Nat):Int)),(38,.sl μ3.nl (μ3.l.map Sn.D) (zsl μ3.nl 2) none),(34,B true),(33,I ((μ3.l.length:Nat):Int)),(32,.sl μ3.nl (μ3.l.map Sn.D) (zsl μ3.nl 2) none),(31,I ((μ2:Nat):Int)),(0,.sl μ3.nl (μ3.l.map Sn.D) (zsl μ3.nl 2) none),(3,.lref ν0 0 2 0),(6,.sl true [] 0 none),(7,I ((μ2:Nat):Int))],[(ν0,⟨[.agg [I μ1.lo,I μ1.hi]],2,false⟩)],ν1,ν0⟩

def sd45030 (ν0 ν1:Nat) (μ0:Sn) (μ1:Sn) (μ2:Nat) (μ3:GS Sn):St:=⟨107,[(5,I 2),(4,.sl true [] 0 none),(76,B true),(75,.tup []),(74,.tup []),(73,B true),(72,B true),(71,B false),(11,B false),(10,.sl (((z7 (zb (w64 (0 - μ0.hi)) 1) (w64 (0 - μ0.lo)) μ1).1).nl) ((((z7 (zb (w64 (0 - μ0.hi)) 1) (w64 (0 - μ0.lo)) μ1).1).l).map Sn.D) (zsl (((z7 (zb (w64 (0 - μ0.hi)) 1) (w64 (0 - μ0.lo)) μ1).1).nl) 2) none),(70,B false),(69,.sl (((z7 (zb (w64 (0 - μ0.hi)) 1) (w64 (0 - μ0.lo)) μ1).1).nl) ((((z7 (zb (w64 (0 - μ0.hi)) 1) (w64 (0 - μ0.lo)) μ1).1).l).map Sn.D) (zsl (((z7 (zb (w64 (0 - μ0.hi)) 1) (w64 (0 - μ0.lo)) μ1).1).nl) 2) none),(53,.tup [.sl (((z7 (zb (w64 (0 - μ0.hi)) 1) (w64 (0 - μ0.lo)) μ1).1).nl) ((((z7 (zb (w64 (0 - μ0.hi)) 1) (w64 (0 - μ0.lo)) μ1).1).l).map Sn.D) (zsl (((z7 (zb (w64 (0 - μ0.hi)) 1) (w64 (0 - μ0.lo)) μ1).1).nl) 2) none,B ((z7 (zb (w64 (0 - μ0.hi)) 1) (w64 (0 - μ0.lo)) μ1).2)]),(68,.tup [.sl (((z7 (zb (w64 (0 - μ0.hi)) 1) (w64 (0 - μ0.lo)) μ1).1).nl) ((((z7 (zb (w64 (0 - μ0.hi)) 1) (w64 (0 - μ0.lo)) μ1).1).l).map Sn.D) (zsl (((z7 (zb (w64 (0 - μ0.hi)) 1) (w64 (0 - μ0.lo)) μ1).1).nl) 2) none,B ((z7 (zb (w64 (0 - μ0.hi)) 1) (w64 (0 - μ0.lo)) μ1).2)]),(67,.agg [I μ1.lo,I μ1.hi]),(66,I (w64 (0 - μ0.lo))),(65,I μ0.lo),(64,.ptr (I μ0.lo)),(63,.ptr (.agg [I μ0.lo,I μ0.hi])),(62,I ((μ2:Nat):Int)),(61,.sl μ3.nl (μ3.l.map Sn.D) (zsl μ3.nl 2) none),(60,I (zb (w64 (0 - μ0.hi)) 1)),(59,I (w64 (0 - μ0.hi))),(58,I μ0.hi),(57,.ptr (I μ0.hi)),(56,.ptr (.agg [I μ0.lo,I μ0.hi])),(55,I ((μ2:Nat):Int)),(54,.sl μ3.nl (μ3.l.map Sn.D) (zsl μ3.nl 2) none),(9,B false),(8,.sl (((z7 (zb μ0.lo 0) μ0.hi μ1).1).nl) ((((z7 (zb μ0.lo 0) μ0.hi μ1).1).l).map Sn.D) (zsl (((z7 (zb μ0.lo 0) μ0.hi μ1).1).nl) 2) none),(52,B false),(51,.sl (((z7 (zb μ0.lo 0) μ0.hi μ1).1).nl) ((((z7 (zb μ0.lo 0) μ0.hi μ1).1).l).map Sn.D) (zsl (((z7 (zb μ0.lo 0) μ0.hi μ1).1).nl) 2) none),(37,.tup [.sl (((z7 (zb μ0.lo 0) μ0.hi μ1).1).nl) ((((z7 (zb μ0.lo 0) μ0.hi μ1).1).l).map Sn.D) (zsl (((z7 (zb μ0.lo 0) μ0.hi μ1).1).nl) 2) none,B ((z7 (zb μ0.lo 0) μ0.hi μ1).2)]),(50,.tup [.sl (((z7 (zb μ0.lo 0) μ0.hi μ1).1).nl) ((((z7 (zb μ0.lo 0) μ0.hi μ1).1).l).map Sn.D) (zsl (((z7 (zb μ0.lo 0) μ0.hi μ1).1).nl) 2) none,B ((z7 (zb μ0.lo 0) μ0.hi μ1).2)]),(49,.agg [I μ1.lo,I μ1.hi]),(48,I μ0.hi),(47,.ptr (I μ0.hi)),(46,.ptr (.agg [I μ0.lo,I μ0.hi])),(45,I ((μ2:Nat):Int)),(44,.sl μ3.nl (μ3.l.map Sn.D) (zsl μ3.nl 2) none),(43,I (zb μ0.lo 0)),(42,I μ0.lo),(41,.ptr (I μ0.lo)),(40,.ptr (.agg [I μ0.lo,I μ0.hi])),(39,I ((μ2:Nat):Int)),(38,.sl μ3.nl (μ3.l.map Sn.D) (zsl μ3.nl 2) none),(34,B true),(33,I ((μ3.l.length:Nat):Int)),(32,.sl μ3.nl (μ3.l.map Sn.D) (zsl μ3.nl 2) none),(31,I ((μ2:Nat):Int)),(0,.sl μ3.nl (μ3.l.map Sn.D) (zsl μ3.nl 2) none),(3,.lref ν0 0 2 0),(6,.sl true [] 0 none),(7,I ((μ2:Nat):Int))],[(ν0,⟨[.agg [I μ1.lo,I μ1.hi]],2,false⟩)],ν1,ν0⟩

def sd45020 (ν0 ν1 ν2:Nat) (μ0:GS Sn) (μ1:List Sn) (μ2:Nat) (μ3:Sn) (μ4:Sn):St:=⟨107,[(0,.sl μ0.nl (μ0.l.map Sn.D) (zsl μ0.nl 2) none),(3,.lref ν0 0 2 0),(6,.lsl ν1 0 μ1.length 2 none),(7,I ((μ2:Nat):Int)),(10,.sl (((z7 (zb (w64 (0 - μ3.hi)) 1) (w64 (0 - μ3.lo)) μ4).1).nl) ((((z7 (zb (w64 (0 - μ3.hi)) 1) (w64 (0 - μ3.lo)) μ4).1).l).map Sn.D) (zsl (((z7 (zb (w64 (0 - μ3.hi)) 1) (w64 (0 - μ3.lo)) μ4).1).nl) 2) none),(12,I 0)],[(ν0,⟨[.agg [I μ4.lo,I μ4.hi]],2,false⟩),(ν1,⟨μ1.map Sn.D,2,false⟩)],ν2,ν0⟩

def sd45015 (ν0 ν1 ν2:Nat) (μ0:Sn) (μ1:Sn) (μ2:GS Sn) (μ3:List Sn) (μ4:Nat):St:=⟨107,[(83,B false),(82,I ((((z7 (zb (w64 (0 - μ0.hi)) 1) (w64 (0 - μ0.lo)) μ1).1).l.length:Nat):Int)),(81,.sl (((z7 (zb (w64 (0 - μ0.hi)) 1) (w64 (0 - μ0.lo)) μ1).1).nl) ((((z7 (zb (w64 (0 - μ0.hi)) 1) (w64 (0 - μ0.lo)) μ1).1).l).map Sn.D) (zsl (((z7 (zb (w64 (0 - μ0.hi)) 1) (w64 (0 - μ0.lo)) μ1).1).nl) 2) none),(80,I ((((z7 (zb (w64 (0 - μ0.hi)) 1) (w64 (0 - μ0.lo)) μ1).1).l.length:Nat):Int)),(0,.sl μ2.nl (μ2.l.map Sn.D) (zsl μ2.nl 2) none),(3,.lref ν0 0 2 0),(6,.lsl ν1 0 μ3.length 2 none),(7,I ((μ4:Nat):Int)),(10,.sl (((z7 (zb (w64 (0 - μ0.hi)) 1) (w64 (0 - μ0.lo)) μ1).1).nl) ((((z7 (zb (w64 (0 - μ0.hi)) 1) (w64 (0 - μ0.lo)) μ1).1).l).map Sn.D) (zsl (((z7 (zb (w64 (0 - μ0.hi)) 1) (w64 (0 - μ0.lo)) μ1).1).nl) 2) none),(12,I ((((z7 (zb (w64 (0 - μ0.hi)) 1) (w64 (0 - μ0.lo)) μ1).1).l.length:Nat):Int))],[(ν0,⟨[.agg [I μ1.lo,I μ1.hi]],2,false⟩),(ν1,⟨μ3.map Sn.D,2,false⟩)],ν2,ν0⟩

def sd45022 (ν0 ν1 ν2:Nat) (μ0:GS Sn) (μ1:List Sn) (μ2:Sn) (μ3:Sn) (μ4:Nat):St:=⟨107,[(0,.sl μ0.nl (μ0.l.map Sn.D) (zsl μ0.nl 2) none),(3,.lref ν0 0 2 0),(6,.lsl ν1 0 ((μ1++(((z7 (zb μ2.lo 0) μ2.hi μ3).1).l)).length) 2 none),(7,I ((μ4:Nat):Int)),(10,.sl (((z7 (zb (w64 (0 - μ2.hi)) 1) (w64 (0 - μ2.lo)) μ3).1).nl) ((((z7 (zb (w64 (0 - μ2.hi)) 1) (w64 (0 - μ2.lo)) μ3).1).l).map Sn.D) (zsl (((z7 (zb (w64 (0 - μ2.hi)) 1) (w64 (0 - μ2.lo)) μ3).1).nl) 2) none),(12,I 0)],[(ν0,⟨[.agg [I μ3.lo,I μ3.hi]],2,false⟩),(ν1,⟨(μ1++(((z7 (zb μ2.lo 0) μ2.hi μ3).1).l)).map Sn.D,2,false⟩)],ν2,ν0⟩

noncomputable def lp18_7:Code:=subC [1,1,1,1,0,1,0,0] (bodyC Tryz.f18)

def sd45019 (ν0 ν1 ν2:Nat) (μ0:List Sn) (μ1:Sn) (μ2:Sn) (μ3:Nat) (μ4:GS Sn):St:=⟨107,[(12,I 0),(6,.lsl ν0 0 μ0.length 2 none),(79,.lsl ν0 0 μ0.length 2 none),(78,.sl (((z7 (zb μ1.lo 0) μ1.hi μ2).1).nl) ((((z7 (zb μ1.lo 0) μ1.hi μ2).1).l).map Sn.D) (zsl (((z7 (zb μ1.lo 0) μ1.hi μ2).1).nl) 2) none),(77,.lsl ν0 0 μ0.length 2 none),(76,B false),(75,B false),(74,B true),(73,B false),(72,B false),(71,B true),(11,B true),(10,.sl (((z7 (zb (w64 (0 - μ1.hi)) 1) (w64 (0 - μ1.lo)) μ2).1).nl) ((((z7 (zb (w64 (0 - μ1.hi)) 1) (w64 (0 - μ1.lo)) μ2).1).l).map Sn.D) (zsl (((z7 (zb (w64 (0 - μ1.hi)) 1) (w64 (0 - μ1.lo)) μ2).1).nl) 2) none),(70,B true),(69,.sl (((z7 (zb (w64 (0 - μ1.hi)) 1) (w64 (0 - μ1.lo)) μ2).1).nl) ((((z7 (zb (w64 (0 - μ1.hi)) 1) (w64 (0 - μ1.lo)) μ2).1).l).map Sn.D) (zsl (((z7 (zb (w64 (0 - μ1.hi)) 1) (w64 (0 - μ1.lo)) μ2).1).nl) 2) none),(53,.tup [.sl (((z7 (zb (w64 (0 - μ1.hi)) 1) (w64 (0 - μ1.lo)) μ2).1).nl) ((((z7 (zb (w64 (0 - μ1.hi)) 1) (w64 (0 - μ1.lo)) μ2).1).l).map Sn.D) (zsl (((z7 (zb (w64 (0 - μ1.hi)) 1) (w64 (0 - μ1.lo)) μ2).1).nl) 2) none,B ((z7 (zb (w64 (0 - μ1.hi)) 1) (w64 (0 - μ1.lo)) μ2).2)]),(68,.tup [.sl (((z7 (zb (w64 (0 - μ1.hi)) 1) (w64 (0 - μ1.lo)) μ2).1).nl) ((((z7 (zb (w64 (0 - μ1.hi)) 1) (w64 (0 - μ1.lo)) μ2).1).l).map Sn.D) (zsl (((z7 (zb (w64 (0 - μ1.hi)) 1) (w64 (0 - μ1.lo)) μ2).1).nl) 2) none,B ((z7 (zb (w64 (0 - μ1.hi)) 1) (w64 (0 - μ1.lo)) μ2).2)]),(67,.agg [I μ2.lo,I μ2.hi]),(66,I (w64 (0 - μ1.lo))),(65,I μ1.lo),(64,.ptr (I μ1.lo)),(63,.ptr (.agg [I μ1.lo,I μ1.hi])),(62,I ((μ3:Nat):Int)),(61,.sl μ4.nl (μ4.l.map Sn.D) (zsl μ4.nl 2) none),(60,I (zb (w64 (0 - μ1.hi)) 1)),(59,I (w64 (0 - μ1.hi))),(58,I μ1.hi),(57,.ptr (I μ1.hi)),(56,.ptr (.agg [I μ1.lo,I μ1.hi])),(55,I ((μ3:Nat):Int)),(54,.sl μ4.nl (μ4.l.map Sn.D) (zsl μ4.nl 2) none),(9,B true),(8,.sl (((z7 (zb μ1.lo 0) μ1.hi μ2).1).nl) ((((z7 (zb μ1.lo 0) μ1.hi μ2).1).l).map Sn.D) (zsl (((z7 (zb μ1.lo 0) μ1.hi μ2).1).nl) 2) none),(52,B true),(51,.sl (((z7 (zb μ1.lo 0) μ1.hi μ2).1).nl) ((((z7 (zb μ1.lo 0) μ1.hi μ2).1).l).map Sn.D) (zsl (((z7 (zb μ1.lo 0) μ1.hi μ2).1).nl) 2) none),(37,.tup [.sl (((z7 (zb μ1.lo 0) μ1.hi μ2).1).nl) ((((z7 (zb μ1.lo 0) μ1.hi μ2).1).l).map Sn.D) (zsl (((z7 (zb μ1.lo 0) μ1.hi μ2).1).nl) 2) none,B ((z7 (zb μ1.lo 0) μ1.hi μ2).2)]),(50,.tup [.sl (((z7 (zb μ1.lo 0) μ1.hi μ2).1).nl) ((((z7 (zb μ1.lo 0) μ1.hi μ2).1).l).map Sn.D) (zsl (((z7 (zb μ1.lo 0) μ1.hi μ2).1).nl) 2) none,B ((z7 (zb μ1.lo 0) μ1.hi μ2).2)]),(49,.agg [I μ2.lo,I μ2.hi]),(48,I μ1.hi),(47,.ptr (I μ1.hi)),(46,.ptr (.agg [I μ1.lo,I μ1.hi])),(45,I ((μ3:Nat):Int)),(44,.sl μ4.nl (μ4.l.map Sn.D) (zsl μ4.nl 2) none),(43,I (zb μ1.lo 0)),(42,I μ1.lo),(41,.ptr (I μ1.lo)),(40,.ptr (.agg [I μ1.lo,I μ1.hi])),(39,I ((μ3:Nat):Int)),(38,.sl μ4.nl (μ4.l.map Sn.D) (zsl μ4.nl 2) none),(34,B true),(33,I ((μ4.l.length:Nat):Int)),(32,.sl μ4.nl (μ4.l.map Sn.D) (zsl μ4.nl 2) none),(31,I ((μ3:Nat):Int)),(0,.sl μ4.nl (μ4.l.map Sn.D) (zsl μ4.nl 2) none),(3,.lref ν1 0 2 0),(6,.lsl ν0 0 μ0.length 2 none),(7,I ((μ3:Nat):Int))],[(ν1,⟨[.agg [I μ2.lo,I μ2.hi]],2,false⟩),(ν0,⟨μ0.map Sn.D,2,false⟩)],ν2,ν1⟩

def sd45031 (ν0 ν1 ν2:Nat) (μ0:Nat) (μ1:Sn) (μ2:Sn) (μ3:GS Sn) (μ4:List Sn):St:=⟨107,[(7,I ((μ0+1:Nat):Int)),(36,I ((μ0+1:Nat):Int)),(35,I ((μ0:Nat):Int)),(83,B false),(82,I ((((z7 (zb (w64 (0 - μ1.hi)) 1) (w64 (0 - μ1.lo)) μ2).1).l.length:Nat):Int)),(81,.sl (((z7 (zb (w64 (0 - μ1.hi)) 1) (w64 (0 - μ1.lo)) μ2).1).nl) ((((z7 (zb (w64 (0 - μ1.hi)) 1) (w64 (0 - μ1.lo)) μ2).1).l).map Sn.D) (zsl (((z7 (zb (w64 (0 - μ1.hi)) 1) (w64 (0 - μ1.lo)) μ2).1).nl) 2) none),(80,I ((((z7 (zb (w64 (0 - μ1.hi)) 1) (w64 (0 - μ1.lo)) μ2).1).l.length:Nat):Int)),(0,.sl μ3.nl (μ3.l.map Sn.D) (zsl μ3.nl 2) none),(3,.lref ν0 0 2 0),(6,.lsl ν1 0 μ4.length 2 none),(7,I ((μ0:Nat):Int)),(10,.sl (((z7 (zb (w64 (0 - μ1.hi)) 1) (w64 (0 - μ1.lo)) μ2).1).nl) ((((z7 (zb (w64 (0 - μ1.hi)) 1) (w64 (0 - μ1.lo)) μ2).1).l).map Sn.D) (zsl (((z7 (zb (w64 (0 - μ1.hi)) 1) (w64 (0 - μ1.lo)) μ2).1).nl) 2) none),(12,I ((((z7 (zb (w64 (0 - μ1.hi)) 1) (w64 (0 - μ1.lo)) μ2).1).l.length:Nat):Int))],[(ν0,⟨[.agg [I μ2.lo,I μ2.hi]],2,false⟩),(ν1,⟨μ4.map Sn.D,2,false⟩)],ν2,ν0⟩

def sd45021 (ν0 ν1 ν2 ν3:Nat) (μ0:List Sn) (μ1:Sn) (μ2:Sn) (μ3:Nat) (μ4:GS Sn):St:=⟨107,[(12,I 0),(6,.lsl ν0 0 ((μ0++(((z7 (zb μ1.lo 0) μ1.hi μ2).1).l)).length) 2 none),(79,.lsl ν0 0 ((μ0++(((z7 (zb μ1.lo 0) μ1.hi μ2).1).l)).length) 2 none),(78,.sl (((z7 (zb μ1.lo 0) μ1.hi μ2).1).nl) ((((z7 (zb μ1.lo 0) μ1.hi μ2).1).l).map Sn.D) (zsl (((z7 (zb μ1.lo 0) μ1.hi μ2).1).nl) 2) none),(77,.lsl ν1 0 μ0.length 2 none),(76,B false),(75,B false),(74,B true),(73,B false),(72,B false),(71,B true),(11,B true),(10,.sl (((z7 (zb (w64 (0 - μ1.hi)) 1) (w64 (0 - μ1.lo)) μ2).1).nl) ((((z7 (zb (w64 (0 - μ1.hi)) 1) (w64 (0 - μ1.lo)) μ2).1).l).map Sn.D) (zsl (((z7 (zb (w64 (0 - μ1.hi)) 1) (w64 (0 - μ1.lo)) μ2).1).nl) 2) none),(70,B true),(69,.sl (((z7 (zb (w64 (0 - μ1.hi)) 1) (w64 (0 - μ1.lo)) μ2).1).nl) ((((z7 (zb (w64 (0 - μ1.hi)) 1) (w64 (0 - μ1.lo)) μ2).1).l).map Sn.D) (zsl (((z7 (zb (w64 (0 - μ1.hi)) 1) (w64 (0 - μ1.lo)) μ2).1).nl) 2) none),(53,.tup [.sl (((z7 (zb (w64 (0 - μ1.hi)) 1) (w64 (0 - μ1.lo)) μ2).1).nl) ((((z7 (zb (w64 (0 - μ1.hi)) 1) (w64 (0 - μ1.lo)) μ2).1).l).map Sn.D) (zsl (((z7 (zb (w64 (0 - μ1.hi)) 1) (w64 (0 - μ1.lo)) μ2).1).nl) 2) none,B ((z7 (zb (w64 (0 - μ1.hi)) 1) (w64 (0 - μ1.lo)) μ2).2)]),(68,.tup [.sl (((z7 (zb (w64 (0 - μ1.hi)) 1) (w64 (0 - μ1.lo)) μ2).1).nl) ((((z7 (zb (w64 (0 - μ1.hi)) 1) (w64 (0 - μ1.lo)) μ2).1).l).map Sn.D) (zsl (((z7 (zb (w64 (0 - μ1.hi)) 1) (w64 (0 - μ1.lo)) μ2).1).nl) 2) none,B ((z7 (zb (w64 (0 - μ1.hi)) 1) (w64 (0 - μ1.lo)) μ2).2)]),(67,.agg [I μ2.lo,I μ2.hi]),(66,I (w64 (0 - μ1.lo))),(65,I μ1.lo),(64,.ptr (I μ1.lo)),(63,.ptr (.agg [I μ1.lo,I μ1.hi])),(62,I ((μ3:Nat):Int)),(61,.sl μ4.nl (μ4.l.map Sn.D) (zsl μ4.nl 2) none),(60,I (zb (w64 (0 - μ1.hi)) 1)),(59,I (w64 (0 - μ1.hi))),(58,I μ1.hi),(57,.ptr (I μ1.hi)),(56,.ptr (.agg [I μ1.lo,I μ1.hi])),(55,I ((μ3:Nat):Int)),(54,.sl μ4.nl (μ4.l.map Sn.D) (zsl μ4.nl 2) none),(9,B true),(8,.sl (((z7 (zb μ1.lo 0) μ1.hi μ2).1).nl) ((((z7 (zb μ1.lo 0) μ1.hi μ2).1).l).map Sn.D) (zsl (((z7 (zb μ1.lo 0) μ1.hi μ2).1).nl) 2) none),(52,B true),(51,.sl (((z7 (zb μ1.lo 0) μ1.hi μ2).1).nl) ((((z7 (zb μ1.lo 0) μ1.hi μ2).1).l).map Sn.D) (zsl (((z7 (zb μ1.lo 0) μ1.hi μ2).1).nl) 2) none),(37,.tup [.sl (((z7 (zb μ1.lo 0) μ1.hi μ2).1).nl) ((((z7 (zb μ1.lo 0) μ1.hi μ2).1).l).map Sn.D) (zsl (((z7 (zb μ1.lo 0) μ1.hi μ2).1).nl) 2) none,B ((z7 (zb μ1.lo 0) μ1.hi μ2).2)]),(50,.tup [.sl (((z7 (zb μ1.lo 0) μ1.hi μ2).1).nl) ((((z7 (zb μ1.lo 0) μ1.hi μ2).1).l).map Sn.D) (zsl (((z7 (zb μ1.lo 0) μ1.hi μ2).1).nl) 2) none,B ((z7 (zb μ1.lo 0) μ1.hi μ2).2)]),(49,.agg [I μ2.lo,I μ2.hi]),(48,I μ1.hi),(47,.ptr (I μ1.hi)),(46,.ptr (.agg [I μ1.lo,I μ1.hi])),(45,I ((μ3:Nat):Int)),(44,.sl μ4.nl (μ4.l.map Sn.D) (zsl μ4.nl 2) none),(43,I (zb μ1.lo 0)),(42,I μ1.lo),(41,.ptr (I μ1.lo)),(40,.ptr (.agg [I μ1.lo,I μ1.hi])),(39,I ((μ3:Nat):Int)),(38,.sl μ4.nl (μ4.l.map Sn.D) (zsl μ4.nl 2) none),(34,B true),(33,I ((μ4.l.length:Nat):Int)),(32,.sl μ4.nl (μ4.l.map Sn.D) (zsl μ4.nl 2) none),(31,I ((μ3:Nat):Int)),(0,.sl μ4.nl (μ4.l.map Sn.D) (zsl μ4.nl 2) none),(3,.lref ν2 0 2 0),(6,.lsl ν1 0 μ0.length 2 none),(7,I ((μ3:Nat):Int))],[(ν2,⟨[.agg [I μ2.lo,I μ2.hi]],2,false⟩),(ν0,⟨(μ0++(((z7 (zb μ1.lo 0) μ1.hi μ2).1).l)).map Sn.D,2,false⟩)],ν3,ν2⟩

def sd45018 (ν0 ν1 ν2:Nat) (μ0:GS Sn) (μ1:Sn) (μ2:Sn) (μ3:Nat):St:=⟨107,[(0,.sl μ0.nl (μ0.l.map Sn.D) (zsl μ0.nl 2) none),(3,.lref ν0 0 2 0),(6,.lsl ν1 0 ((((z7 (zb μ1.lo 0) μ1.hi μ2).1).l).length) 2 none),(7,I ((μ3:Nat):Int)),(10,.sl (((z7 (zb (w64 (0 - μ1.hi)) 1) (w64 (0 - μ1.lo)) μ2).1).nl) ((((z7 (zb (w64 (0 - μ1.hi)) 1) (w64 (0 - μ1.lo)) μ2).1).l).map Sn.D) (zsl (((z7 (zb (w64 (0 - μ1.hi)) 1) (w64 (0 - μ1.lo)) μ2).1).nl) 2) none),(12,I 0)],[(ν0,⟨[.agg [I μ2.lo,I μ2.hi]],2,false⟩),(ν1,⟨(((z7 (zb μ1.lo 0) μ1.hi μ2).1).l).map Sn.D,2,false⟩)],ν2,ν0⟩

def sd45016 (ν0 ν1:Nat) (μ0:Sn) (μ1:Sn) (μ2:GS Sn) (μ3:Nat):St:=⟨107,[(83,B false),(82,I ((((z7 (zb (w64 (0 - μ0.hi)) 1) (w64 (0 - μ0.lo)) μ1).1).l.length:Nat):Int)),(81,.sl (((z7 (zb (w64 (0 - μ0.hi)) 1) (w64 (0 - μ0.lo)) μ1).1).nl) ((((z7 (zb (w64 (0 - μ0.hi)) 1) (w64 (0 - μ0.lo)) μ1).1).l).map Sn.D) (zsl (((z7 (zb (w64 (0 - μ0.hi)) 1) (w64 (0 - μ0.lo)) μ1).1).nl) 2) none),(80,I ((((z7 (zb (w64 (0 - μ0.hi)) 1) (w64 (0 - μ0.lo)) μ1).1).l.length:Nat):Int)),(0,.sl μ2.nl (μ2.l.map Sn.D) (zsl μ2.nl 2) none),(3,.lref ν0 0 2 0),(6,.sl true [] 0 none),(7,I ((μ3:Nat):Int)),(10,.sl (((z7 (zb (w64 (0 - μ0.hi)) 1) (w64 (0 - μ0.lo)) μ1).1).nl) ((((z7 (zb (w64 (0 - μ0.hi)) 1) (w64 (0 - μ0.lo)) μ1).1).l).map Sn.D) (zsl (((z7 (zb (w64 (0 - μ0.hi)) 1) (w64 (0 - μ0.lo)) μ1).1).nl) 2) none),(12,I ((((z7 (zb (w64 (0 - μ0.hi)) 1) (w64 (0 - μ0.lo)) μ1).1).l.length:Nat):Int))],[(ν0,⟨[.agg [I μ1.lo,I μ1.hi]],2,false⟩)],ν1,ν0⟩

def sd45017 (ν0 ν1 ν2:Nat) (μ0:Sn) (μ1:Sn) (μ2:Nat) (μ3:GS Sn):St:=⟨107,[(12,I 0),(6,.lsl ν0 0 ((((z7 (zb μ0.lo 0) μ0.hi μ1).1).l).length) 2 none),(79,.lsl ν0 0 ((((z7 (zb μ0.lo 0) μ0.hi μ1).1).l).length) 2 none),(78,.sl (((z7 (zb μ0.lo 0) μ0.hi μ1).1).nl) ((((z7 (zb μ0.lo 0) μ0.hi μ1).1).l).map Sn.D) (zsl (((z7 (zb μ0.lo 0) μ0.hi μ1).1).nl) 2) none),(77,.sl true [] 0 none),(76,B false),(75,B false),(74,B true),(73,B false),(72,B false),(71,B true),(11,B true),(10,.sl (((z7 (zb (w64 (0 - μ0.hi)) 1) (w64 (0 - μ0.lo)) μ1).1).nl) ((((z7 (zb (w64 (0 - μ0.hi)) 1) (w64 (0 - μ0.lo)) μ1).1).l).map Sn.D) (zsl (((z7 (zb (w64 (0 - μ0.hi)) 1) (w64 (0 - μ0.lo)) μ1).1).nl) 2) none),(70,B true),(69,.sl (((z7 (zb (w64 (0 - μ0.hi)) 1) (w64 (0 - μ0.lo)) μ1).1).nl) ((((z7 (zb (w64 (0 - μ0.hi)) 1) (w64 (0 - μ0.lo)) μ1).1).l).map Sn.D) (zsl (((z7 (zb (w64 (0 - μ0.hi)) 1) (w64 (0 - μ0.lo)) μ1).1).nl) 2) none),(53,.tup [.sl (((z7 (zb (w64 (0 - μ0.hi)) 1) (w64 (0 - μ0.lo)) μ1).1).nl) ((((z7 (zb (w64 (0 - μ0.hi)) 1) (w64 (0 - μ0.lo)) μ1).1).l).map Sn.D) (zsl (((z7 (zb (w64 (0 - μ0.hi)) 1) (w64 (0 - μ0.lo)) μ1).1).nl) 2) none,B ((z7 (zb (w64 (0 - μ0.hi)) 1) (w64 (0 - μ0.lo)) μ1).2)]),(68,.tup [.sl (((z7 (zb (w64 (0 - μ0.hi)) 1) (w64 (0 - μ0.lo)) μ1).1).nl) ((((z7 (zb (w64 (0 - μ0.hi)) 1) (w64 (0 - μ0.lo)) μ1).1).l).map Sn.D) (zsl (((z7 (zb (w64 (0 - μ0.hi)) 1) (w64 (0 - μ0.lo)) μ1).1).nl) 2) none,B ((z7 (zb (w64 (0 - μ0.hi)) 1) (w64 (0 - μ0.lo)) μ1).2)]),(67,.agg [I μ1.lo,I μ1.hi]),(66,I (w64 (0 - μ0.lo))),(65,I μ0.lo),(64,.ptr (I μ0.lo)),(63,.ptr (.agg [I μ0.lo,I μ0.hi])),(62,I ((μ2:Nat):Int)),(61,.sl μ3.nl (μ3.l.map Sn.D) (zsl μ3.nl 2) none),(60,I (zb (w64 (0 - μ0.hi)) 1)),(59,I (w64 (0 - μ0.hi))),(58,I μ0.hi),(57,.ptr (I μ0.hi)),(56,.ptr (.agg [I μ0.lo,I μ0.hi])),(55,I ((μ2:Nat):Int)),(54,.sl μ3.nl (μ3.l.map Sn.D) (zsl μ3.nl 2) none),(9,B true),(8,.sl (((z7 (zb μ0.lo 0) μ0.hi μ1).1).nl) ((((z7 (zb μ0.lo 0) μ0.hi μ1).1).l).map Sn.D) (zsl (((z7 (zb μ0.lo 0) μ0.hi μ1).1).nl) 2) none),(52,B true),(51,.sl (((z7 (zb μ0.lo 0) μ0.hi μ1).1).nl) ((((z7 (zb μ0.lo 0) μ0.hi μ1).1).l).map Sn.D) (zsl (((z7 (zb μ0.lo 0) μ0.hi μ1).1).nl) 2) none),(37,.tup [.sl (((z7 (zb μ0.lo 0) μ0.hi μ1).1).nl) ((((z7 (zb μ0.lo 0) μ0.hi μ1).1).l).map Sn.D) (zsl (((z7 (zb μ0.lo 0) μ0.hi μ1).1).nl) 2) none,B ((z7 (zb μ0.lo 0) μ0.hi μ1).2)]),(50,.tup [.sl (((z7 (zb μ0.lo 0) μ0.hi μ1).1).nl) ((((z7 (zb μ0.lo 0) μ0.hi μ1).1).l).map Sn.D) (zsl (((z7 (zb μ0.lo 0) μ0.hi μ1).1).nl) 2) none,B ((z7 (zb μ0.lo 0) μ0.hi μ1).2)]),(49,.agg [I μ1.lo,I μ1.hi]),(48,I μ0.hi),(47,.ptr (I μ0.hi)),(46,.ptr (.agg [I μ0.lo,I μ0.hi])),(45,I ((μ2:Nat):Int)),(44,.sl μ3.nl (μ3.l.map Sn.D) (zsl μ3.nl 2) none),(43,I (zb μ0.lo 0)),(42,I μ0.lo),(41,.ptr (I μ0.lo)),(40,.ptr (.agg [I μ0.lo,I μ0.hi])),(39,I ((μ2:Nat):Int)),(38,.sl μ3.nl (μ3.l.map Sn.D) (zsl μ3.nl 2) none),(34,B true),(33,I ((μ3.l.length:Nat):Int)),(32,.sl μ3.nl (μ3.l.map Sn.D) (zsl μ3.nl 2) none),(31,I ((μ2:Nat):Int)),(0,.sl μ3.nl (μ3.l.map Sn.D) (zsl μ3.nl 2) none),(3,.lref ν1 0 2 0),(6,.sl true [] 0 none),(7,I ((μ2:Nat):Int))],[(ν1,⟨[.agg [I μ1.lo,I μ1.hi]],2,false⟩),(ν0,⟨(((z7 (zb μ0.lo 0) μ0.hi μ1).1).l).map Sn.D,2,false⟩)],ν2,ν1⟩

inductive LR_r_Times_7 where
 |x0 (yS:List Sn)
 |x1 (i7:Nat) (x7:Sn) (yS:List Sn)
 |x2 (i7:Nat) (x7:Sn) (yS:List Sn)
 |x3 (i7:Nat) (x7:Sn) (yS:List Sn)
 |x4
 |x5 (i7:Nat) (x7:Sn)
 |x6 (i7:Nat) (x7:Sn)
 |x7 (i7:Nat) (x7:Sn)
instance:Inhabited LR_r_Times_7:=⟨.x0 default⟩
def r_Times_7a (k:Sn):List Sn→Nat→(List Sn)→LR_r_Times_7
 |[],i7,yS=>.x0 yS
 |x7::xA,i7,yS =>
  bif ((z7 (zb x7.lo 0) x7.hi k).2) then
   bif ((z7 (zb (w64 (0 - x7.hi)) 1) (w64 (0 - x7.lo)) k).2) then
    bif (((z7 (zb x7.lo 0) x7.hi k).1).l).isEmpty then
     match r_Times_15 (((z7 (zb (w64 (0 - x7.hi)) 1) (w64 (0 - x7.lo)) k).1).l) yS with
     |.x0 xB =>
      r_Times_7a k xA (i7+1) xB
    else
     match r_Times_15 (((z7 (zb (w64 (0 - x7.hi)) 1) (w64 (0 - x7.lo)) k).1).l) (yS++(((z7 (zb x7.lo 0) x7.hi k).1).l)) with
     |.x0 xB =>
      r_Times_7a k xA (i7+1) xB
   else
    .x1 i7 x7 yS
  else
   bif ((z7 (zb (w64 (0 - x7.hi)) 1) (w64 (0 - x7.lo)) k).2) then
    .x2 i7 x7 yS
   else
    .x3 i7 x7 yS
def r_Times_7 (k:Sn):List Sn→Nat→LR_r_Times_7
 |[],i7=>.x4
 |x7::xA,i7 =>
  bif ((z7 (zb x7.lo 0) x7.hi k).2) then
   bif ((z7 (zb (w64 (0 - x7.hi)) 1) (w64 (0 - x7.lo)) k).2) then
    bif (((z7 (zb x7.lo 0) x7.hi k).1).l).isEmpty then
     match r_Times_15p1 (((z7 (zb (w64 (0 - x7.hi)) 1) (w64 (0 - x7.lo)) k).1).l) with
     |.x0 xm =>
      r_Times_7a k xA (i7+1) xm
     |.x1 =>
      r_Times_7 k xA (i7+1)
    else
     match r_Times_15 (((z7 (zb (w64 (0 - x7.hi)) 1) (w64 (0 - x7.lo)) k).1).l) (((z7 (zb x7.lo 0) x7.hi k).1).l) with
     |.x0 xB =>
      r_Times_7a k xA (i7+1) xB
   else
    .x5 i7 x7
  else
   bif ((z7 (zb (w64 (0 - x7.hi)) 1) (w64 (0 - x7.lo)) k).2) then
    .x6 i7 x7
   else
    .x7 i7 x7
def lr_r_Times_7 (r:GS Sn) (k:Sn):LR_r_Times_7→Exit × St
 |.x0 yS=>((.exit 0),(sd45023 0 1 2 r yS k))
 |.x1 i7 x7 yS=>(.ret,(sd45024 0 1 2 x7 k i7 r yS))
 |.x2 i7 x7 yS=>(.ret,(sd45025 0 1 2 x7 k i7 r yS))
 |.x3 i7 x7 yS=>(.ret,(sd45026 0 1 2 x7 k i7 r yS))
 |.x4=>((.exit 0),(sd45027 0 1 r k))
 |.x5 i7 x7=>(.ret,(sd45028 0 1 x7 k i7 r))
 |.x6 i7 x7=>(.ret,(sd45029 0 1 x7 k i7 r))
 |.x7 i7 x7=>(.ret,(sd45030 0 1 x7 k i7 r))
def iv_r_Times_7 (r:GS Sn) (k:Sn):LR_r_Times_7→Prop
 |.x0 yS=>(yS.length≤132 * r.l.length)
 |.x1 i7 x7 yS=>(yS.length≤132 * i7)
 |.x2 i7 x7 yS=>(yS.length≤132 * i7)
 |.x3 i7 x7 yS=>(yS.length≤132 * i7)
 |.x4=>True
 |.x5 i7 x7=>True
 |.x6 i7 x7=>True
 |.x7 i7 x7=>True
def r_Times_7a_l_o1 (r:GS Sn) (k:Sn) (x7:Sn):List Ora:=[.rw 33 (I (r.l.length:Int)),.dec true,.el (.agg [I x7.lo,I x7.hi]),.el (.agg [I x7.lo,I x7.hi]),.pure (.tup [.sl (((z7 (zb x7.lo 0) x7.hi k).1).nl) ((((z7 (zb x7.lo 0) x7.hi k).1).l).map Sn.D) (zsl (((z7 (zb x7.lo 0) x7.hi k).1).nl) 2) none,B ((z7 (zb x7.lo 0) x7.hi k).2)])]
def r_Times_7a_l_o2 (k:Sn) (x7:Sn):List Ora:=[.dec true,.el (.agg [I x7.lo,I x7.hi]),.el (.agg [I x7.lo,I x7.hi]),.pure (.tup [.sl (((z7 (zb (w64 (0 - x7.hi)) 1) (w64 (0 - x7.lo)) k).1).nl) ((((z7 (zb (w64 (0 - x7.hi)) 1) (w64 (0 - x7.lo)) k).1).l).map Sn.D) (zsl (((z7 (zb (w64 (0 - x7.hi)) 1) (w64 (0 - x7.lo)) k).1).nl) 2) none,B ((z7 (zb (w64 (0 - x7.hi)) 1) (w64 (0 - x7.lo)) k).2)])]
def r_Times_7a_l_o3 (r:GS Sn) (k:Sn) (i7:Nat) (x7:Sn) (yS:List Sn) (xB:List Sn):List Ora:=[.dec true,.op (some 79) ⟨.lsl 1 0 yS.length 2 none,[],[],2⟩,.gloop (sd45020 0 1 2 r yS i7 x7 k) (.exit 2) (sd45015 0 1 2 x7 k r xB i7),.rw 36 (I ((i7+1:Nat):Int))]
def r_Times_7a_l_o4 (r:GS Sn) (k:Sn) (i7:Nat) (x7:Sn) (yS:List Sn) (xB:List Sn):List Ora:=[.dec true,.op (some 79) ⟨.lsl 2 0 ((yS++(((z7 (zb x7.lo 0) x7.hi k).1).l)).length) 2 none,[(1,none),(2,some ⟨(yS++(((z7 (zb x7.lo 0) x7.hi k).1).l)).map Sn.D,2,false⟩)],[1],3⟩,.gloop (sd45022 0 1 2 r yS x7 k i7) (.exit 2) (sd45015 0 1 2 x7 k r xB i7),.rw 36 (I ((i7+1:Nat):Int))]
def r_Times_7a_l_o5 (k:Sn) (x7:Sn):List Ora:=[.dec false,.el (.agg [I x7.lo,I x7.hi]),.el (.agg [I x7.lo,I x7.hi]),.pure (.tup [.sl (((z7 (zb (w64 (0 - x7.hi)) 1) (w64 (0 - x7.lo)) k).1).nl) ((((z7 (zb (w64 (0 - x7.hi)) 1) (w64 (0 - x7.lo)) k).1).l).map Sn.D) (zsl (((z7 (zb (w64 (0 - x7.hi)) 1) (w64 (0 - x7.lo)) k).1).nl) 2) none,B ((z7 (zb (w64 (0 - x7.hi)) 1) (w64 (0 - x7.lo)) k).2)])]
theorem lp_r_Times_7a (r:GS Sn) (k:Sn):∀(xA:List Sn) (i7:Nat) (yS:List Sn) (hd7:r.l.drop i7=xA) (hi7:i7≤r.l.length) (xI:r.l.length≤64) (hg7_va7_0:yS.length≤132 * i7) (hL7:r.l.length≤1099511627776),(lim cfg).loop 18 lp18_7 ⟨107,[(0,.sl r.nl (r.l.map Sn.D) (zsl r.nl 2) none),(3,.lref 0 0 2 0),(6,.lsl 1 0 yS.length 2 none),(7,I (i7:Int))],[(0,⟨[.agg [I k.lo,I k.hi]],2,false⟩),(1,⟨yS.map Sn.D,2,false⟩)],2,0⟩=some (lr_r_Times_7 r k (r_Times_7a k xA i7 yS)):=by
 intro xA
 induction xA with
 |nil =>
  intro i7 yS hd7 hi7 xI hg7_va7_0 hL7
  unfold r_Times_7a
  obtain rfl:i7=r.l.length:=nil_eq hd7 hi7
  exact zr [.rw 33 (I (r.l.length:Int)),.dec false] (Ai (lt_no hd7) (Ai (zk Sn.D r) trivial)) (by kernel_rfl)
 |cons x7 xA ih =>
  intro i7 yS hd7 hi7 xI hg7_va7_0 hL7
  have hlt7:=ze hd7
  have hl1:=rprod_len (zb x7.lo 0) x7.hi k
  have hl2:=rprod_len (zb (w64 (0 - x7.hi)) 1) (w64 (0 - x7.lo)) k
  unfold r_Times_7a
  have p1:=(el_at (s:=r) (f:=Sn.D) (k:=2) hd7)
  have p2:=(el_at (s:=r) (f:=Sn.D) (k:=2) hd7)
  cases h17:((z7 (zb x7.lo 0) x7.hi k).2) with
  |true =>
   have p3:=(el_at (s:=r) (f:=Sn.D) (k:=2) hd7)
   have p4:=(el_at (s:=r) (f:=Sn.D) (k:=2) hd7)
   have p5:=(T_r_products (zb (w64 (0 - x7.hi)) 1) (w64 (0 - x7.lo)) k)
   cases h18:((z7 (zb (w64 (0 - x7.hi)) 1) (w64 (0 - x7.lo)) k).2) with
   |true =>
    cases h19:(((z7 (zb x7.lo 0) x7.hi k).1).l).isEmpty with
    |true =>
     have p6:=(app_none (te:=zG) (gO:=zn [(0,⟨[.agg [I k.lo,I k.hi]],2,false⟩),(1,⟨yS.map Sn.D,2,false⟩)]) (nxt:=2) (f:=Sn.D) (sz:=2) (d:=.lsl 1 0 yS.length 2 none) ((z7 (zb x7.lo 0) x7.hi k).1) h19 rfl)
     have p7:=(gc_of (C:=cfg) (f:=18) (a:=lp18_15) (ks:=[0,3,6,7,10,12]) (st:=(sd45019 1 0 2 yS x7 k i7 r)) (st1:=(sd45020 0 1 2 r yS i7 x7 k)) (by kernel_rfl) (by (simp only [sd45019,sd45020,go_sem,length_set,Nat.reduceAdd,Nat.reduceEqDiff,Nat.reduceLT,Nat.reduceLeDiff,bI2,zc.idsL,zc.renL,zc.snapAll,z6.idsL,z6.renL,z6.snapAll])<;>rfl))
     cases h20:r_Times_15 (((z7 (zb (w64 (0 - x7.hi)) 1) (w64 (0 - x7.lo)) k).1).l) yS with
     |x0 xB =>
      try dsimp only
      have hv_h20:=ivt_r_Times_15 r k i7 ((z7 (zb (w64 (0 - x7.hi)) 1) (w64 (0 - x7.lo)) k).1) (((z7 (zb (w64 (0 - x7.hi)) 1) (w64 (0 - x7.lo)) k).1).l) 0 yS (List.drop_zero) (Nat.zero_le _) (by omega) (by omega) (by omega) (by omega)
      rw [h20] at hv_h20
      have hv_h20_0:=hv_h20
      try dsimp only [iv_r_Times_15] at hv_h20_0
      exact zw (ks:=[0,3,6,7]) (st':=(sd45031 0 1 2 i7 x7 k r xB)) ((r_Times_7a_l_o1 r k x7)++((r_Times_7a_l_o2 k x7)++((r_Times_7a_l_o3 r k i7 x7 yS xB)++[]))) (Ai (zZ (i:=i7) (by have:=ze hd7;omega)) (Ai (zB (q:=lr_r_Times_15 r k i7 ((z7 (zb (w64 (0 - x7.hi)) 1) (w64 (0 - x7.lo)) k).1)) (lp_r_Times_15 r k i7 ((z7 (zb (w64 (0 - x7.hi)) 1) (w64 (0 - x7.lo)) k).1) (((z7 (zb (w64 (0 - x7.hi)) 1) (w64 (0 - x7.lo)) k).1).l) 0 yS (List.drop_zero) (Nat.zero_le _) (by omega) (by omega) (by omega) (by omega)) h20) (Ai p7 (Ai p6 (Ai h18 (Ai p5 (Ai p4 (Ai p3 (Ai h17 (Ai (T_r_products (zb x7.lo 0) x7.hi k) (Ai p2 (Ai p1 (Ai (yl hd7) (Ai (zk Sn.D r) trivial)))))))))))))) (by kernel_rfl) (by (simp only [sd45031,go_sem,length_set,Nat.reduceAdd,Nat.reduceEqDiff,Nat.reduceLT,Nat.reduceLeDiff,bI2,zc.idsL,zc.renL,zc.snapAll,z6.idsL,z6.renL,z6.snapAll])<;>rfl) (ih (i7+1) xB (zf hd7) (ze hd7) (by omega) (by omega) (by omega)) (by kernel_rfl)
    |false =>
     have p8:=(app_moreD (te:=zG) (gO:=zn [(0,⟨[.agg [I k.lo,I k.hi]],2,false⟩),(1,⟨yS.map Sn.D,2,false⟩)]) (nxt:=2) (o:=1) (v:=yS) z6 ((z7 (zb x7.lo 0) x7.hi k).1) h19 (by kernel_rfl) rfl (by kernel_rfl) (by decide) ⟨by simp only [zG,big]<;>(omega),by simp only [big]<;>(omega)⟩)
     have p9:=(gc_of (C:=cfg) (f:=18) (a:=lp18_15) (ks:=[0,3,6,7,10,12]) (st:=(sd45021 2 1 0 3 yS x7 k i7 r)) (st1:=(sd45022 0 1 2 r yS x7 k i7)) (by kernel_rfl) (by (simp only [sd45021,sd45022,go_sem,length_set,Nat.reduceAdd,Nat.reduceEqDiff,Nat.reduceLT,Nat.reduceLeDiff,bI2,zc.idsL,zc.renL,zc.snapAll,z6.idsL,z6.renL,z6.snapAll])<;>rfl))
     cases h21:r_Times_15 (((z7 (zb (w64 (0 - x7.hi)) 1) (w64 (0 - x7.lo)) k).1).l) (yS++(((z7 (zb x7.lo 0) x7.hi k).1).l)) with
     |x0 xB =>
      try dsimp only
      have hv_h21:=ivt_r_Times_15 r k i7 ((z7 (zb (w64 (0 - x7.hi)) 1) (w64 (0 - x7.lo)) k).1) (((z7 (zb (w64 (0 - x7.hi)) 1) (w64 (0 - x7.lo)) k).1).l) 0 (yS++(((z7 (zb x7.lo 0) x7.hi k).1).l)) (List.drop_zero) (Nat.zero_le _) (by omega) (by omega) (by simp only [length_append,length_cons,length_nil] at *<;>omega) (by omega)
      rw [h21] at hv_h21
      have hv_h21_0:=hv_h21
      try dsimp only [iv_r_Times_15] at hv_h21_0
      exact zw (ks:=[0,3,6,7]) (st':=(sd45031 0 1 2 i7 x7 k r xB)) ((r_Times_7a_l_o1 r k x7)++((r_Times_7a_l_o2 k x7)++((r_Times_7a_l_o4 r k i7 x7 yS xB)++[]))) (Ai (zZ (i:=i7) (by have:=ze hd7;omega)) (Ai (zB (q:=lr_r_Times_15 r k i7 ((z7 (zb (w64 (0 - x7.hi)) 1) (w64 (0 - x7.lo)) k).1)) (lp_r_Times_15 r k i7 ((z7 (zb (w64 (0 - x7.hi)) 1) (w64 (0 - x7.lo)) k).1) (((z7 (zb (w64 (0 - x7.hi)) 1) (w64 (0 - x7.lo)) k).1).l) 0 (yS++(((z7 (zb x7.lo 0) x7.hi k).1).l)) (List.drop_zero) (Nat.zero_le _) (by omega) (by omega) (by simp only [length_append,length_cons,length_nil] at *<;>omega) (by omega)) h21) (Ai p9 (Ai p8 (Ai h18 (Ai p5 (Ai p4 (Ai p3 (Ai h17 (Ai (T_r_products (zb x7.lo 0) x7.hi k) (Ai p2 (Ai p1 (Ai (yl hd7) (Ai (zk Sn.D r) trivial)))))))))))))) (by kernel_rfl) (by (simp only [sd45031,go_sem,length_set,Nat.reduceAdd,Nat.reduceEqDiff,Nat.reduceLT,Nat.reduceLeDiff,bI2,zc.idsL,zc.renL,zc.snapAll,z6.idsL,z6.renL,z6.snapAll])<;>rfl) (ih (i7+1) xB (zf hd7) (ze hd7) (by omega) (by omega) (by omega)) (by kernel_rfl)
   |false =>
    exact zr ((r_Times_7a_l_o1 r k x7)++((r_Times_7a_l_o2 k x7)++[.dec false])) (Ai h18 (Ai p5 (Ai p4 (Ai p3 (Ai h17 (Ai (T_r_products (zb x7.lo 0) x7.hi k) (Ai p2 (Ai p1 (Ai (yl hd7) (Ai (zk Sn.D r) trivial)))))))))) (by kernel_rfl)
  |false =>
   have p10:=(el_at (s:=r) (f:=Sn.D) (k:=2) hd7)
   have p11:=(el_at (s:=r) (f:=Sn.D) (k:=2) hd7)
   have p12:=(T_r_products (zb (w64 (0 - x7.hi)) 1) (w64 (0 - x7.lo)) k)
   cases h22:((z7 (zb (w64 (0 - x7.hi)) 1) (w64 (0 - x7.lo)) k).2) with
   |true =>
    exact zr ((r_Times_7a_l_o1 r k x7)++((r_Times_7a_l_o5 k x7)++[.dec true])) (Ai h22 (Ai p12 (Ai p11 (Ai p10 (Ai h17 (Ai (T_r_products (zb x7.lo 0) x7.hi k) (Ai p2 (Ai p1 (Ai (yl hd7) (Ai (zk Sn.D r) trivial)))))))))) (by kernel_rfl)
   |false =>
    exact zr ((r_Times_7a_l_o1 r k x7)++((r_Times_7a_l_o5 k x7)++[.dec false])) (Ai h22 (Ai p12 (Ai p11 (Ai p10 (Ai h17 (Ai (T_r_products (zb x7.lo 0) x7.hi k) (Ai p2 (Ai p1 (Ai (yl hd7) (Ai (zk Sn.D r) trivial)))))))))) (by kernel_rfl)
theorem ivt_r_Times_7a (r:GS Sn) (k:Sn):∀(xA:List Sn) (i7:Nat) (yS:List Sn) (hd7:r.l.drop i7=xA) (hi7:i7≤r.l.length) (xI:r.l.length≤64) (hg7_va7_0:yS.length≤132 * i7) (hL7:r.l.length≤1099511627776),iv_r_Times_7 r k (r_Times_7a k xA i7 yS):=by
 intro xA
 induction xA with
 |nil =>
  intro i7 yS hd7 hi7 xI hg7_va7_0 hL7
  unfold r_Times_7a
  obtain rfl:i7=r.l.length:=nil_eq hd7 hi7
  exact hg7_va7_0
 |cons x7 xA ih =>
  intro i7 yS hd7 hi7 xI hg7_va7_0 hL7
  have hlt7:=ze hd7
  have hl1:=rprod_len (zb x7.lo 0) x7.hi k
  have hl2:=rprod_len (zb (w64 (0 - x7.hi)) 1) (w64 (0 - x7.lo)) k
  unfold r_Times_7a
  cases h17:((z7 (zb x7.lo 0) x7.hi k).2) with
  |true =>
   cases h18:((z7 (zb (w64 (0 - x7.hi)) 1) (w64 (0 - x7.lo)) k).2) with
   |true =>
    cases h19:(((z7 (zb x7.lo 0) x7.hi k).1).l).isEmpty with
    |true =>
     cases h20:r_Times_15 (((z7 (zb (w64 (0 - x7.hi)) 1) (w64 (0 - x7.lo)) k).1).l) yS with
     |x0 xB =>
      try dsimp only
      have hv_h20:=ivt_r_Times_15 r k i7 ((z7 (zb (w64 (0 - x7.hi)) 1) (w64 (0 - x7.lo)) k).1) (((z7 (zb (w64 (0 - x7.hi)) 1) (w64 (0 - x7.lo)) k).1).l) 0 yS (List.drop_zero) (Nat.zero_le _) (by omega) (by omega) (by omega) (by omega)
      rw [h20] at hv_h20
      have hv_h20_0:=hv_h20
      try dsimp only [iv_r_Times_15] at hv_h20_0
      exact ih (i7+1) xB (zf hd7) (ze hd7) (by omega) (by omega) (by omega)
    |false =>
     cases h21:r_Times_15 (((z7 (zb (w64 (0 - x7.hi)) 1) (w64 (0 - x7.lo)) k).1).l) (yS++(((z7 (zb x7.lo 0) x7.hi k).1).l)) with
     |x0 xB =>
      try dsimp only
      have hv_h21:=ivt_r_Times_15 r k i7 ((z7 (zb (w64 (0 - x7.hi)) 1) (w64 (0 - x7.lo)) k).1) (((z7 (zb (w64 (0 - x7.hi)) 1) (w64 (0 - x7.lo)) k).1).l) 0 (yS++(((z7 (zb x7.lo 0) x7.hi k).1).l)) (List.drop_zero) (Nat.zero_le _) (by omega) (by omega) (by simp only [length_append,length_cons,length_nil] at *<;>omega) (by omega)
      rw [h21] at hv_h21
      have hv_h21_0:=hv_h21
      try dsimp only [iv_r_Times_15] at hv_h21_0
      exact ih (i7+1) xB (zf hd7) (ze hd7) (by omega) (by omega) (by omega)
   |false =>
    exact hg7_va7_0
  |false =>
   cases h22:((z7 (zb (w64 (0 - x7.hi)) 1) (w64 (0 - x7.lo)) k).2) with
   |true =>
    exact hg7_va7_0
   |false =>
    exact hg7_va7_0
def r_Times_7_l_o1 (r:GS Sn) (k:Sn) (x7:Sn):List Ora:=[.rw 33 (I (r.l.length:Int)),.dec true,.el (.agg [I x7.lo,I x7.hi]),.el (.agg [I x7.lo,I x7.hi]),.pure (.tup [.sl (((z7 (zb x7.lo 0) x7.hi k).1).nl) ((((z7 (zb x7.lo 0) x7.hi k).1).l).map Sn.D) (zsl (((z7 (zb x7.lo 0) x7.hi k).1).nl) 2) none,B ((z7 (zb x7.lo 0) x7.hi k).2)])]
def r_Times_7_l_o2 (k:Sn) (x7:Sn):List Ora:=[.dec true,.el (.agg [I x7.lo,I x7.hi]),.el (.agg [I x7.lo,I x7.hi]),.pure (.tup [.sl (((z7 (zb (w64 (0 - x7.hi)) 1) (w64 (0 - x7.lo)) k).1).nl) ((((z7 (zb (w64 (0 - x7.hi)) 1) (w64 (0 - x7.lo)) k).1).l).map Sn.D) (zsl (((z7 (zb (w64 (0 - x7.hi)) 1) (w64 (0 - x7.lo)) k).1).nl) 2) none,B ((z7 (zb (w64 (0 - x7.hi)) 1) (w64 (0 - x7.lo)) k).2)])]
def r_Times_7_l_o3 (r:GS Sn) (k:Sn) (i7:Nat) (x7:Sn) (xB:List Sn):List Ora:=[.dec true,.op (some 79) ⟨.lsl 1 0 ((((z7 (zb x7.lo 0) x7.hi k).1).l).length) 2 none,[(1,some ⟨(((z7 (zb x7.lo 0) x7.hi k).1).l).map Sn.D,2,false⟩)],[],2⟩,.gloop (sd45018 0 1 2 r x7 k i7) (.exit 2) (sd45015 0 1 2 x7 k r xB i7),.rw 36 (I ((i7+1:Nat):Int))]
def r_Times_7_l_o4 (k:Sn) (x7:Sn):List Ora:=[.dec false,.el (.agg [I x7.lo,I x7.hi]),.el (.agg [I x7.lo,I x7.hi]),.pure (.tup [.sl (((z7 (zb (w64 (0 - x7.hi)) 1) (w64 (0 - x7.lo)) k).1).nl) ((((z7 (zb (w64 (0 - x7.hi)) 1) (w64 (0 - x7.lo)) k).1).l).map Sn.D) (zsl (((z7 (zb (w64 (0 - x7.hi)) 1) (w64 (0 - x7.lo)) k).1).nl) 2) none,B ((z7 (zb (w64 (0 - x7.hi)) 1) (w64 (0 - x7.lo)) k).2)])]
theorem lp_r_Times_7 (r:GS Sn) (k:Sn):∀(xA:List Sn) (i7:Nat) (hd7:r.l.drop i7=xA) (hi7:i7≤r.l.length) (xI:r.l.length≤64) (hL7:r.l.length≤1099511627776),(lim cfg).loop 18 lp18_7 ⟨107,[(0,.sl r.nl (r.l.map Sn.D) (zsl r.nl 2) none),(3,.lref 0 0 2 0),(6,.sl true [] 0 none),(7,I (i7:Int))],[(0,⟨[.agg [I k.lo,I k.hi]],2,false⟩)],1,0⟩=some (lr_r_Times_7 r k (r_Times_7 k xA i7)):=by
 intro xA
 induction xA with
 |nil =>
  intro i7 hd7 hi7 xI hL7
  unfold r_Times_7
  obtain rfl:i7=r.l.length:=nil_eq hd7 hi7
  exact zr [.rw 33 (I (r.l.length:Int)),.dec false] (Ai (lt_no hd7) (Ai (zk Sn.D r) trivial)) (by kernel_rfl)
 |cons x7 xA ih =>
  intro i7 hd7 hi7 xI hL7
  have hlt7:=ze hd7
  have hl1:=rprod_len (zb x7.lo 0) x7.hi k
  have hl2:=rprod_len (zb (w64 (0 - x7.hi)) 1) (w64 (0 - x7.lo)) k
  unfold r_Times_7
  have p1:=(el_at (s:=r) (f:=Sn.D) (k:=2) hd7)
  have p2:=(el_at (s:=r) (f:=Sn.D) (k:=2) hd7)
  cases h23:((z7 (zb x7.lo 0) x7.hi k).2) with
  |true =>
   have p3:=(el_at (s:=r) (f:=Sn.D) (k:=2) hd7)
   have p4:=(el_at (s:=r) (f:=Sn.D) (k:=2) hd7)
   have p5:=(T_r_products (zb (w64 (0 - x7.hi)) 1) (w64 (0 - x7.lo)) k)
   cases h24:((z7 (zb (w64 (0 - x7.hi)) 1) (w64 (0 - x7.lo)) k).2) with
   |true =>
    cases h25:(((z7 (zb x7.lo 0) x7.hi k).1).l).isEmpty with
    |true =>
     have p6:=(app_none (te:=zG) (gO:=zn [(0,⟨[.agg [I k.lo,I k.hi]],2,false⟩)]) (nxt:=1) (f:=Sn.D) (sz:=2) (d:=.sl true [] 0 none) ((z7 (zb x7.lo 0) x7.hi k).1) h25 rfl)
     cases h26:r_Times_15p1 (((z7 (zb (w64 (0 - x7.hi)) 1) (w64 (0 - x7.lo)) k).1).l) with
     |x0 xm =>
      try dsimp only
      have xW:=ivt_r_Times_15p1 r k i7 ((z7 (zb (w64 (0 - x7.hi)) 1) (w64 (0 - x7.lo)) k).1) (((z7 (zb (w64 (0 - x7.hi)) 1) (w64 (0 - x7.lo)) k).1).l) 0 (List.drop_zero) (Nat.zero_le _) (by omega) (by omega) (by omega)
      rw [h26] at xW
      have xR:=xW
      try dsimp only [iv_r_Times_15p1] at xR
      exact zw (ks:=[0,3,6,7]) (st':=(sd45031 0 1 2 i7 x7 k r xm)) ((r_Times_7_l_o1 r k x7)++((r_Times_7_l_o2 k x7)++[.dec true,.op (some 79) ⟨.sl true [] 0 none,[],[],1⟩,.loop (.exit 2) (sd45015 0 1 2 x7 k r xm i7),.rw 36 (I ((i7+1:Nat):Int))])) (Ai (zZ (i:=i7) (by have:=ze hd7;omega)) (Ai (zB (q:=lr_r_Times_15p1 r k i7 ((z7 (zb (w64 (0 - x7.hi)) 1) (w64 (0 - x7.lo)) k).1)) (lp_r_Times_15p1 r k i7 ((z7 (zb (w64 (0 - x7.hi)) 1) (w64 (0 - x7.lo)) k).1) (((z7 (zb (w64 (0 - x7.hi)) 1) (w64 (0 - x7.lo)) k).1).l) 0 (List.drop_zero) (Nat.zero_le _) (by omega) (by omega) (by omega)) h26) (Ai p6 (Ai h24 (Ai p5 (Ai p4 (Ai p3 (Ai h23 (Ai (T_r_products (zb x7.lo 0) x7.hi k) (Ai p2 (Ai p1 (Ai (yl hd7) (Ai (zk Sn.D r) trivial))))))))))))) (by kernel_rfl) (by (simp only [sd45031,go_sem,length_set,Nat.reduceAdd,Nat.reduceEqDiff,Nat.reduceLT,Nat.reduceLeDiff,bI2,zc.idsL,zc.renL,zc.snapAll,z6.idsL,z6.renL,z6.snapAll])<;>rfl) (lp_r_Times_7a r k _ (i7+1) xm (zf hd7) (ze hd7) (by omega) (by omega) (by omega)) (by kernel_rfl)
     |x1 =>
      try dsimp only
      exact po_turn ((r_Times_7_l_o1 r k x7)++((r_Times_7_l_o2 k x7)++[.dec true,.op (some 79) ⟨.sl true [] 0 none,[],[],1⟩,.loop (.exit 2) (sd45016 0 1 x7 k r i7),.rw 36 (I ((i7+1:Nat):Int))])) (Ai (zZ (i:=i7) (by have:=ze hd7;omega)) (Ai (zB (q:=lr_r_Times_15p1 r k i7 ((z7 (zb (w64 (0 - x7.hi)) 1) (w64 (0 - x7.lo)) k).1)) (lp_r_Times_15p1 r k i7 ((z7 (zb (w64 (0 - x7.hi)) 1) (w64 (0 - x7.lo)) k).1) (((z7 (zb (w64 (0 - x7.hi)) 1) (w64 (0 - x7.lo)) k).1).l) 0 (List.drop_zero) (Nat.zero_le _) (by omega) (by omega) (by omega)) h26) (Ai p6 (Ai h24 (Ai p5 (Ai p4 (Ai p3 (Ai h23 (Ai (T_r_products (zb x7.lo 0) x7.hi k) (Ai p2 (Ai p1 (Ai (yl hd7) (Ai (zk Sn.D r) trivial))))))))))))) (ih (i7+1) (zf hd7) (ze hd7) (by omega) (by omega)) (by kernel_rfl)
    |false =>
     have p7:=(app_newD (te:=zG) (gO:=zn [(0,⟨[.agg [I k.lo,I k.hi]],2,false⟩)]) (nxt:=1) (els0:=[]) (sz0:=0) (cap0:=none) z6 ((z7 (zb x7.lo 0) x7.hi k).1) h25 rfl (by kernel_rfl) (by decide) ⟨by simp only [zG,big]<;>(omega),by simp only [big]<;>(omega)⟩)
     have p8:=(gc_of (C:=cfg) (f:=18) (a:=lp18_15) (ks:=[0,3,6,7,10,12]) (st:=(sd45017 1 0 2 x7 k i7 r)) (st1:=(sd45018 0 1 2 r x7 k i7)) (by kernel_rfl) (by (simp only [sd45017,sd45018,go_sem,length_set,Nat.reduceAdd,Nat.reduceEqDiff,Nat.reduceLT,Nat.reduceLeDiff,bI2,zc.idsL,zc.renL,zc.snapAll,z6.idsL,z6.renL,z6.snapAll])<;>rfl))
     cases h27:r_Times_15 (((z7 (zb (w64 (0 - x7.hi)) 1) (w64 (0 - x7.lo)) k).1).l) (((z7 (zb x7.lo 0) x7.hi k).1).l) with
     |x0 xB =>
      try dsimp only
      have wc:=ivt_r_Times_15 r k i7 ((z7 (zb (w64 (0 - x7.hi)) 1) (w64 (0 - x7.lo)) k).1) (((z7 (zb (w64 (0 - x7.hi)) 1) (w64 (0 - x7.lo)) k).1).l) 0 (((z7 (zb x7.lo 0) x7.hi k).1).l) (List.drop_zero) (Nat.zero_le _) (by omega) (by omega) (by omega) (by omega)
      rw [h27] at wc
      have w9:=wc
      try dsimp only [iv_r_Times_15] at w9
      exact zw (ks:=[0,3,6,7]) (st':=(sd45031 0 1 2 i7 x7 k r xB)) ((r_Times_7_l_o1 r k x7)++((r_Times_7_l_o2 k x7)++((r_Times_7_l_o3 r k i7 x7 xB)++[]))) (Ai (zZ (i:=i7) (by have:=ze hd7;omega)) (Ai (zB (q:=lr_r_Times_15 r k i7 ((z7 (zb (w64 (0 - x7.hi)) 1) (w64 (0 - x7.lo)) k).1)) (lp_r_Times_15 r k i7 ((z7 (zb (w64 (0 - x7.hi)) 1) (w64 (0 - x7.lo)) k).1) (((z7 (zb (w64 (0 - x7.hi)) 1) (w64 (0 - x7.lo)) k).1).l) 0 (((z7 (zb x7.lo 0) x7.hi k).1).l) (List.drop_zero) (Nat.zero_le _) (by omega) (by omega) (by omega) (by omega)) h27) (Ai p8 (Ai p7 (Ai h24 (Ai p5 (Ai p4 (Ai p3 (Ai h23 (Ai (T_r_products (zb x7.lo 0) x7.hi k) (Ai p2 (Ai p1 (Ai (yl hd7) (Ai (zk Sn.D r) trivial)))))))))))))) (by kernel_rfl) (by (simp only [sd45031,go_sem,length_set,Nat.reduceAdd,Nat.reduceEqDiff,Nat.reduceLT,Nat.reduceLeDiff,bI2,zc.idsL,zc.renL,zc.snapAll,z6.idsL,z6.renL,z6.snapAll])<;>rfl) (lp_r_Times_7a r k _ (i7+1) xB (zf hd7) (ze hd7) (by omega) (by omega) (by omega)) (by kernel_rfl)
   |false =>
    exact zr ((r_Times_7_l_o1 r k x7)++((r_Times_7_l_o2 k x7)++[.dec false])) (Ai h24 (Ai p5 (Ai p4 (Ai p3 (Ai h23 (Ai (T_r_products (zb x7.lo 0) x7.hi k) (Ai p2 (Ai p1 (Ai (yl hd7) (Ai (zk Sn.D r) trivial)))))))))) (by kernel_rfl)
  |false =>
   have p9:=(el_at (s:=r) (f:=Sn.D) (k:=2) hd7)
   have p10:=(el_at (s:=r) (f:=Sn.D) (k:=2) hd7)
   have p11:=(T_r_products (zb (w64 (0 - x7.hi)) 1) (w64 (0 - x7.lo)) k)
   cases h28:((z7 (zb (w64 (0 - x7.hi)) 1) (w64 (0 - x7.lo)) k).2) with
   |true =>
    exact zr ((r_Times_7_l_o1 r k x7)++((r_Times_7_l_o4 k x7)++[.dec true])) (Ai h28 (Ai p11 (Ai p10 (Ai p9 (Ai h23 (Ai (T_r_products (zb x7.lo 0) x7.hi k) (Ai p2 (Ai p1 (Ai (yl hd7) (Ai (zk Sn.D r) trivial)))))))))) (by kernel_rfl)
   |false =>
    exact zr ((r_Times_7_l_o1 r k x7)++((r_Times_7_l_o4 k x7)++[.dec false])) (Ai h28 (Ai p11 (Ai p10 (Ai p9 (Ai h23 (Ai (T_r_products (zb x7.lo 0) x7.hi k) (Ai p2 (Ai p1 (Ai (yl hd7) (Ai (zk Sn.D r) trivial)))))))))) (by kernel_rfl)
theorem ivt_r_Times_7 (r:GS Sn) (k:Sn):∀(xA:List Sn) (i7:Nat) (hd7:r.l.drop i7=xA) (hi7:i7≤r.l.length) (xI:r.l.length≤64) (hL7:r.l.length≤1099511627776),iv_r_Times_7 r k (r_Times_7 k xA i7):=by
 intro xA
 induction xA with
 |nil =>
  intro i7 hd7 hi7 xI hL7
  unfold r_Times_7
  obtain rfl:i7=r.l.length:=nil_eq hd7 hi7
  exact trivial
 |cons x7 xA ih =>
  intro i7 hd7 hi7 xI hL7
  have hlt7:=ze hd7
  have hl1:=rprod_len (zb x7.lo 0) x7.hi k
  have hl2:=rprod_len (zb (w64 (0 - x7.hi)) 1) (w64 (0 - x7.lo)) k
  unfold r_Times_7
  cases h23:((z7 (zb x7.lo 0) x7.hi k).2) with
  |true =>
   cases h24:((z7 (zb (w64 (0 - x7.hi)) 1) (w64 (0 - x7.lo)) k).2) with
   |true =>
    cases h25:(((z7 (zb x7.lo 0) x7.hi k).1).l).isEmpty with
    |true =>
     cases h26:r_Times_15p1 (((z7 (zb (w64 (0 - x7.hi)) 1) (w64 (0 - x7.lo)) k).1).l) with
     |x0 xm =>
      try dsimp only
      have xW:=ivt_r_Times_15p1 r k i7 ((z7 (zb (w64 (0 - x7.hi)) 1) (w64 (0 - x7.lo)) k).1) (((z7 (zb (w64 (0 - x7.hi)) 1) (w64 (0 - x7.lo)) k).1).l) 0 (List.drop_zero) (Nat.zero_le _) (by omega) (by omega) (by omega)
      rw [h26] at xW
      have xR:=xW
      try dsimp only [iv_r_Times_15p1] at xR
      exact ivt_r_Times_7a r k _ (i7+1) xm (zf hd7) (ze hd7) (by omega) (by omega) (by omega)
     |x1 =>
      try dsimp only
      exact ih (i7+1) (zf hd7) (ze hd7) (by omega) (by omega)
    |false =>
     cases h27:r_Times_15 (((z7 (zb (w64 (0 - x7.hi)) 1) (w64 (0 - x7.lo)) k).1).l) (((z7 (zb x7.lo 0) x7.hi k).1).l) with
     |x0 xB =>
      try dsimp only
      have wc:=ivt_r_Times_15 r k i7 ((z7 (zb (w64 (0 - x7.hi)) 1) (w64 (0 - x7.lo)) k).1) (((z7 (zb (w64 (0 - x7.hi)) 1) (w64 (0 - x7.lo)) k).1).l) 0 (((z7 (zb x7.lo 0) x7.hi k).1).l) (List.drop_zero) (Nat.zero_le _) (by omega) (by omega) (by omega) (by omega)
      rw [h27] at wc
      have w9:=wc
      try dsimp only [iv_r_Times_15] at w9
      exact ivt_r_Times_7a r k _ (i7+1) xB (zf hd7) (ze hd7) (by omega) (by omega) (by omega)
   |false =>
    exact trivial
  |false =>
   cases h28:((z7 (zb (w64 (0 - x7.hi)) 1) (w64 (0 - x7.lo)) k).2) with
   |true =>
    exact trivial
   |false =>
    exact trivial

def r_Times (r:GS Sn) (k:Sn):(GS Sn) × Int :=
 bif (r_Valid r) then
  bif decide (k.lo < 0) then
   (GS.nil,1)
  else
   bif decide (k.lo>k.hi) then
    (GS.nil,1)
   else
    bif decide (k.hi>1000) then
     (GS.nil,1)
    else
     match r_Times_7 k r.l 0 with
     |.x0 yS =>
      bif (JJ (GS.some yS)).nl then
       (((r_Fit (JJ (GS.some yS))).1),((r_Fit (JJ (GS.some yS))).2))
      else
       (((r_Fit (JJ (GS.some yS))).1),((r_Fit (JJ (GS.some yS))).2))
     |.x1 i7 x7 yS =>
      (GS.nil,2)
     |.x2 i7 x7 yS =>
      (GS.nil,2)
     |.x3 i7 x7 yS =>
      (GS.nil,2)
     |.x4 =>
      (((r_Fit (JJ GS.nil)).1),((r_Fit (JJ GS.nil)).2))
     |.x5 i7 x7 =>
      (GS.nil,2)
     |.x6 i7 x7 =>
      (GS.nil,2)
     |.x7 i7 x7 =>
      (GS.nil,2)
 else
  (GS.nil,20)

theorem T_r_Times (r:GS Sn) (k:Sn) (hLr:r.l.length≤9223372036854775807):(lim cfg).pure 18 [GS.D Sn.D 2 r,Sn.D k]=some (.tup [GS.D Sn.D 2 ((r_Times r k).1),I ((r_Times r k).2)]):=by
 unfold r_Times
 cases h1:(r_Valid r) with
 |true =>
  have g1:=valid_len h1
  cases h2:decide (k.lo < 0) with
  |true =>
   have g2:=of_decide_eq_true h2
   exact zl [.pure (B (r_Valid r)),.dec true,.dec true] (Ai h2 (Ai h1 (Ai (T_r_Valid r (by omega)) trivial))) (by kernel_rfl)
  |false =>
   have g2:=of_decide_eq_false h2
   cases h3:decide (k.lo>k.hi) with
   |true =>
    have g3:=of_decide_eq_true h3
    exact zl [.pure (B (r_Valid r)),.dec true,.dec false,.dec true] (Ai h3 (Ai h2 (Ai h1 (Ai (T_r_Valid r (by omega)) trivial)))) (by kernel_rfl)
   |false =>
    have g3:=of_decide_eq_false h3
    cases h4:decide (k.hi>1000) with
    |true =>
     have g4:=of_decide_eq_true h4
     exact zl [.pure (B (r_Valid r)),.dec true,.dec false,.dec false,.dec true] (Ai h4 (Ai h3 (Ai h2 (Ai h1 (Ai (T_r_Valid r (by omega)) trivial))))) (by kernel_rfl)
    |false =>
     have g4:=of_decide_eq_false h4
     cases h29:r_Times_7 k r.l 0 with
     |x0 yS =>
      try dsimp only
      have xQ:=ivt_r_Times_7 r k r.l 0 (List.drop_zero) (Nat.zero_le _) (by omega) (by omega)
      rw [h29] at xQ
      have xN:=xQ
      try dsimp only [iv_r_Times_7] at xN
      have p1:=(zB (q:=lr_r_Times_7 r k) (lp_r_Times_7 r k r.l 0 (List.drop_zero) (Nat.zero_le _) (by omega) (by omega)) h29)
      cases h30:(JJ (GS.some yS)).nl with
      |true =>
       exact zl [.pure (B (r_Valid r)),.dec true,.dec false,.dec false,.dec false,.loop (.exit 0) (sd45023 0 1 2 r yS k),.pureS (.sl ((JJ (GS.some yS)).nl) (((JJ (GS.some yS)).l).map Sn.D) (zsl ((JJ (GS.some yS)).nl) 2) none) true [(1,.sl false (yS.map Sn.D) 2 none,[1])],.pure (.tup [.sl (((r_Fit (JJ (GS.some yS))).1).nl) ((((r_Fit (JJ (GS.some yS))).1).l).map Sn.D) (zsl (((r_Fit (JJ (GS.some yS))).1).nl) 2) none,I ((r_Fit (JJ (GS.some yS))).2)])] (Ai (T_r_Fit (JJ (GS.some yS))) (Ai (Ai (show flat fuelD (.sl ((JJ (GS.some yS)).nl) (((JJ (GS.some yS)).l).map Sn.D) (zsl ((JJ (GS.some yS)).nl) 2) none)=true from (by rw [h30]<;>kernel_rfl)) (Ai (Ai (yx (gO:=zn [(0,⟨[.agg [I k.lo,I k.hi]],2,false⟩),(1,⟨yS.map Sn.D,2,false⟩)]) (o:=1) (len:=yS.length) (cap:=none) (fz:=false) z6 yS (by kernel_rfl) (by omega)) trivial) (T_JJ (GS.some yS) (by simp only [ye,yo,GS.some_l,length_set,length_append,length_cons,length_nil] at *<;>first|assumption|omega)))) (Ai p1 (Ai h4 (Ai h3 (Ai h2 (Ai h1 (Ai (T_r_Valid r (by omega)) trivial)))))))) (by kernel_rfl)
      |false =>
       exact zl [.pure (B (r_Valid r)),.dec true,.dec false,.dec false,.dec false,.loop (.exit 0) (sd45023 0 1 2 r yS k),.pureS (.sl ((JJ (GS.some yS)).nl) (((JJ (GS.some yS)).l).map Sn.D) (zsl ((JJ (GS.some yS)).nl) 2) none) false [(1,.sl false (yS.map Sn.D) 2 none,[1])],.pure (.tup [.sl (((r_Fit (JJ (GS.some yS))).1).nl) ((((r_Fit (JJ (GS.some yS))).1).l).map Sn.D) (zsl (((r_Fit (JJ (GS.some yS))).1).nl) 2) none,I ((r_Fit (JJ (GS.some yS))).2)])] (Ai (T_r_Fit (JJ (GS.some yS))) (Ai (Ai (show flat fuelD (.sl ((JJ (GS.some yS)).nl) (((JJ (GS.some yS)).l).map Sn.D) (zsl ((JJ (GS.some yS)).nl) 2) none)=false from (by rw [h30]<;>kernel_rfl)) (Ai (Ai (yx (gO:=zn [(0,⟨[.agg [I k.lo,I k.hi]],2,false⟩),(1,⟨yS.map Sn.D,2,false⟩)]) (o:=1) (len:=yS.length) (cap:=none) (fz:=false) z6 yS (by kernel_rfl) (by omega)) trivial) (T_JJ (GS.some yS) (by simp only [ye,yo,GS.some_l,length_set,length_append,length_cons,length_nil] at *<;>first|assumption|omega)))) (Ai p1 (Ai h4 (Ai h3 (Ai h2 (Ai h1 (Ai (T_r_Valid r (by omega)) trivial)))))))) (by kernel_rfl)
     |x1 i7 x7 yS =>
      try dsimp only
      have xQ:=ivt_r_Times_7 r k r.l 0 (List.drop_zero) (Nat.zero_le _) (by omega) (by omega)
      rw [h29] at xQ
      have xN:=xQ
      try dsimp only [iv_r_Times_7] at xN
      exact zl [.pure (B (r_Valid r)),.dec true,.dec false,.dec false,.dec false,.loop .ret (sd45024 0 1 2 x7 k i7 r yS)] (Ai (zB (q:=lr_r_Times_7 r k) (lp_r_Times_7 r k r.l 0 (List.drop_zero) (Nat.zero_le _) (by omega) (by omega)) h29) (Ai h4 (Ai h3 (Ai h2 (Ai h1 (Ai (T_r_Valid r (by omega)) trivial)))))) (by kernel_rfl)
     |x2 i7 x7 yS =>
      try dsimp only
      have xQ:=ivt_r_Times_7 r k r.l 0 (List.drop_zero) (Nat.zero_le _) (by omega) (by omega)
      rw [h29] at xQ
      have xN:=xQ
      try dsimp only [iv_r_Times_7] at xN
      exact zl [.pure (B (r_Valid r)),.dec true,.dec false,.dec false,.dec false,.loop .ret (sd45025 0 1 2 x7 k i7 r yS)] (Ai (zB (q:=lr_r_Times_7 r k) (lp_r_Times_7 r k r.l 0 (List.drop_zero) (Nat.zero_le _) (by omega) (by omega)) h29) (Ai h4 (Ai h3 (Ai h2 (Ai h1 (Ai (T_r_Valid r (by omega)) trivial)))))) (by kernel_rfl)
     |x3 i7 x7 yS =>
      try dsimp only
      have xQ:=ivt_r_Times_7 r k r.l 0 (List.drop_zero) (Nat.zero_le _) (by omega) (by omega)
      rw [h29] at xQ
      have xN:=xQ
      try dsimp only [iv_r_Times_7] at xN
      exact zl [.pure (B (r_Valid r)),.dec true,.dec false,.dec false,.dec false,.loop .ret (sd45026 0 1 2 x7 k i7 r yS)] (Ai (zB (q:=lr_r_Times_7 r k) (lp_r_Times_7 r k r.l 0 (List.drop_zero) (Nat.zero_le _) (by omega) (by omega)) h29) (Ai h4 (Ai h3 (Ai h2 (Ai h1 (Ai (T_r_Valid r (by omega)) trivial)))))) (by kernel_rfl)
     |x4 =>
      try dsimp only
      exact zl [.pure (B (r_Valid r)),.dec true,.dec false,.dec false,.dec false,.loop (.exit 0) (sd45027 0 1 r k),.pure (.sl ((JJ GS.nil).nl) (((JJ GS.nil).l).map Sn.D) (zsl ((JJ GS.nil).nl) 2) none),.pure (.tup [.sl (((r_Fit (JJ GS.nil)).1).nl) ((((r_Fit (JJ GS.nil)).1).l).map Sn.D) (zsl (((r_Fit (JJ GS.nil)).1).nl) 2) none,I ((r_Fit (JJ GS.nil)).2)])] (Ai (T_r_Fit (JJ GS.nil)) (Ai (T_JJ GS.nil (by simp [GS.nil])) (Ai (zB (q:=lr_r_Times_7 r k) (lp_r_Times_7 r k r.l 0 (List.drop_zero) (Nat.zero_le _) (by omega) (by omega)) h29) (Ai h4 (Ai h3 (Ai h2 (Ai h1 (Ai (T_r_Valid r (by omega)) trivial)))))))) (by kernel_rfl)
     |x5 i7 x7 =>
      try dsimp only
      exact zl [.pure (B (r_Valid r)),.dec true,.dec false,.dec false,.dec false,.loop .ret (sd45028 0 1 x7 k i7 r)] (Ai (zB (q:=lr_r_Times_7 r k) (lp_r_Times_7 r k r.l 0 (List.drop_zero) (Nat.zero_le _) (by omega) (by omega)) h29) (Ai h4 (Ai h3 (Ai h2 (Ai h1 (Ai (T_r_Valid r (by omega)) trivial)))))) (by kernel_rfl)
     |x6 i7 x7 =>
      try dsimp only
      exact zl [.pure (B (r_Valid r)),.dec true,.dec false,.dec false,.dec false,.loop .ret (sd45029 0 1 x7 k i7 r)] (Ai (zB (q:=lr_r_Times_7 r k) (lp_r_Times_7 r k r.l 0 (List.drop_zero) (Nat.zero_le _) (by omega) (by omega)) h29) (Ai h4 (Ai h3 (Ai h2 (Ai h1 (Ai (T_r_Valid r (by omega)) trivial)))))) (by kernel_rfl)
     |x7 i7 x7 =>
      try dsimp only
      exact zl [.pure (B (r_Valid r)),.dec true,.dec false,.dec false,.dec false,.loop .ret (sd45030 0 1 x7 k i7 r)] (Ai (zB (q:=lr_r_Times_7 r k) (lp_r_Times_7 r k r.l 0 (List.drop_zero) (Nat.zero_le _) (by omega) (by omega)) h29) (Ai h4 (Ai h3 (Ai h2 (Ai h1 (Ai (T_r_Valid r (by omega)) trivial)))))) (by kernel_rfl)
 |false =>
  exact zl [.pure (B (r_Valid r)),.dec false] (Ai h1 (Ai (T_r_Valid r (by omega)) trivial)) (by kernel_rfl)
end Go.VS

namespace Go.VS
open List (length_set length_append length_cons length_nil)
open Go Go.Proofs
theorem over_k2 {k:Sn} (h1:¬(k.lo < 1)) (h2:¬(k.lo>k.hi)) (h3:¬(k.hi>1000)) (h:decide ((w64 (k.hi - k.lo))>99)=false):1≤k.lo∧k.lo≤k.hi∧k.hi≤1000∧k.hi - k.lo≤99:=by
 have h:=of_decide_eq_false h
 rw [zI (by omega) (by omega)] at h
 omega

def sd45036 (ν0 ν1 ν2:Nat) (μ0:GS Sn) (μ1:List Sn) (μ2:Int) (μ3:Sn):St:=⟨81,[(47,B false),(46,I ((μ0.l.length:Nat):Int)),(45,.sl μ0.nl (μ0.l.map Sn.D) (zsl μ0.nl 2) none),(44,I ((μ0.l.length:Nat):Int)),(0,.sl μ0.nl (μ0.l.map Sn.D) (zsl μ0.nl 2) none),(3,.lref ν0 0 2 0),(6,.lsl ν1 0 μ1.length 2 none),(7,I μ2),(8,I ((μ0.l.length:Nat):Int))],[(ν0,⟨[.agg [I μ3.lo,I μ3.hi]],2,false⟩),(ν1,⟨μ1.map Sn.D,2,false⟩)],ν2,ν0⟩

noncomputable def lp20_10:Code:=subC [1,1,1,1,0,1,0,0,1,0,0,1,0,0] (bodyC Tryz.f20)

def sd45038 (ν0 ν1 ν2 ν3 ν4 ν5:Nat) (μ0:Nat) (μ1:List Sn) (μ2:Sn) (μ3:Int) (μ4:GS Sn) (μ5:Sn):St:=⟨81,[(8,I ((μ0+1:Nat):Int)),(49,I ((μ0+1:Nat):Int)),(48,I ((μ0:Nat):Int)),(6,.lsl ν0 0 ((μ1++[(⟨w64 (0 - (zv (w64 (0 - μ2.lo)) μ3)),(zv μ2.hi μ3)⟩:Sn)]).length) 2 none),(75,.lsl ν0 0 ((μ1++[(⟨w64 (0 - (zv (w64 (0 - μ2.lo)) μ3)),(zv μ2.hi μ3)⟩:Sn)]).length) 2 none),(74,.lsl ν1 0 1 2 (some 1)),(73,.agg [I (w64 (0 - (zv (w64 (0 - μ2.lo)) μ3))),I (zv μ2.hi μ3)]),(72,.lsl ν2 0 μ1.length 2 none),(71,B true),(70,I (zv μ2.hi μ3)),(69,.lref ν3 0 2 1),(68,I (w64 (0 - (zv (w64 (0 - μ2.lo)) μ3)))),(67,.lref ν3 0 2 0),(9,.lref ν3 0 2 0),(66,.agg [I (w64 (0 - (zv (w64 (0 - μ2.lo)) μ3))),I (zv μ2.hi μ3)]),(65,I (zv μ2.hi μ3)),(64,I μ3),(63,I μ2.hi),(62,.ptr (I μ2.hi)),(61,.ptr (.agg [I μ2.lo,I μ2.hi])),(60,I ((μ0:Nat):Int)),(59,.sl μ4.nl (μ4.l.map Sn.D) (zsl μ4.nl 2) none),(58,I (w64 (0 - (zv (w64 (0 - μ2.lo)) μ3)))),(57,I (zv (w64 (0 - μ2.lo)) μ3)),(56,I μ3),(55,I (w64 (0 - μ2.lo))),(54,I μ2.lo),(53,.ptr (I μ2.lo)),(52,.ptr (.agg [I μ2.lo,I μ2.hi])),(51,I ((μ0:Nat):Int)),(50,.sl μ4.nl (μ4.l.map Sn.D) (zsl μ4.nl 2) none),(47,B true),(46,I ((μ4.l.length:Nat):Int)),(45,.sl μ4.nl (μ4.l.map Sn.D) (zsl μ4.nl 2) none),(44,I ((μ0:Nat):Int)),(0,.sl μ4.nl (μ4.l.map Sn.D) (zsl μ4.nl 2) none),(3,.lref ν4 0 2 0),(6,.lsl ν2 0 μ1.length 2 none),(7,I μ3),(8,I ((μ0:Nat):Int))],[(ν4,⟨[.agg [I μ5.lo,I μ5.hi]],2,false⟩),(ν3,⟨[.agg [I (w64 (0 - (zv (w64 (0 - μ2.lo)) μ3))),I (zv μ2.hi μ3)]],2,false⟩),(ν1,⟨[.agg [I (w64 (0 - (zv (w64 (0 - μ2.lo)) μ3))),I (zv μ2.hi μ3)]],2,false⟩),(ν0,⟨(μ1++[(⟨w64 (0 - (zv (w64 (0 - μ2.lo)) μ3)),(zv μ2.hi μ3)⟩:Sn)]).map Sn.D,2,false⟩)],ν5,ν4⟩

def sd45039 (ν0 ν1 ν2 ν3:Nat) (μ0:Nat) (μ1:Sn) (μ2:Int) (μ3:GS Sn) (μ4:List Sn) (μ5:Sn):St:=⟨81,[(8,I ((μ0+1:Nat):Int)),(49,I ((μ0+1:Nat):Int)),(48,I ((μ0:Nat):Int)),(71,B false),(70,I (zv μ1.hi μ2)),(69,.lref ν0 0 2 1),(68,I (w64 (0 - (zv (w64 (0 - μ1.lo)) μ2)))),(67,.lref ν0 0 2 0),(9,.lref ν0 0 2 0),(66,.agg [I (w64 (0 - (zv (w64 (0 - μ1.lo)) μ2))),I (zv μ1.hi μ2)]),(65,I (zv μ1.hi μ2)),(64,I μ2),(63,I μ1.hi),(62,.ptr (I μ1.hi)),(61,.ptr (.agg [I μ1.lo,I μ1.hi])),(60,I ((μ0:Nat):Int)),(59,.sl μ3.nl (μ3.l.map Sn.D) (zsl μ3.nl 2) none),(58,I (w64 (0 - (zv (w64 (0 - μ1.lo)) μ2)))),(57,I (zv (w64 (0 - μ1.lo)) μ2)),(56,I μ2),(55,I (w64 (0 - μ1.lo))),(54,I μ1.lo),(53,.ptr (I μ1.lo)),(52,.ptr (.agg [I μ1.lo,I μ1.hi])),(51,I ((μ0:Nat):Int)),(50,.sl μ3.nl (μ3.l.map Sn.D) (zsl μ3.nl 2) none),(47,B true),(46,I ((μ3.l.length:Nat):Int)),(45,.sl μ3.nl (μ3.l.map Sn.D) (zsl μ3.nl 2) none),(44,I ((μ0:Nat):Int)),(0,.sl μ3.nl (μ3.l.map Sn.D) (zsl μ3.nl 2) none),(3,.lref ν1 0 2 0),(6,.lsl ν2 0 μ4.length 2 none),(7,I μ2),(8,I ((μ0:Nat):Int))],[(ν1,⟨[.agg [I μ5.lo,I μ5.hi]],2,false⟩),(ν2,⟨μ4.map Sn.D,2,false⟩),(ν0,⟨[.agg [I (w64 (0 - (zv (w64 (0 - μ1.lo)) μ2))),I (zv μ1.hi μ2)]],2,false⟩)],ν3,ν1⟩

inductive LR_r_Over_10 where
 |x0 (xO:List Sn)
instance:Inhabited LR_r_Over_10:=⟨.x0 default⟩
def r_Over_10 (x9:Int):List Sn→(List Sn)→LR_r_Over_10
 |[],xO=>.x0 xO
 |x10::wd,xO =>
  bif decide ((w64 (0 - (zv (w64 (0 - x10.lo)) x9)))≤(zv x10.hi x9)) then
   r_Over_10 x9 wd (xO++[(⟨w64 (0 - (zv (w64 (0 - x10.lo)) x9)),(zv x10.hi x9)⟩:Sn)])
  else
   r_Over_10 x9 wd xO
def lr_r_Over_10 (r:GS Sn) (k:Sn) (x9:Int):LR_r_Over_10→Exit × St
 |.x0 xO=>((.exit 2),(sd45036 0 1 2 r xO x9 k))
def iv_r_Over_10 (r:GS Sn) (k:Sn) (x9:Int):LR_r_Over_10→Prop
 |.x0 xO=>((xO.length:Int)≤64 * (x9 - k.lo)+r.l.length)
theorem lp_r_Over_10 (r:GS Sn) (k:Sn) (x9:Int):∀(wd:List Sn) (i10:Nat) (xO:List Sn) (hd10:r.l.drop i10=wd) (hi10:i10≤r.l.length) (hk:1≤k.lo∧k.lo≤k.hi∧k.hi≤1000∧k.hi - k.lo≤99) (xI:r.l.length≤64) (hc0:k.lo≤x9∧x9≤k.hi) (hw0:(xO.length:Int)≤64 * (x9 - k.lo)+i10) (hL10:r.l.length≤9223372036854775807),(lim cfg).loop 20 lp20_10 ⟨81,[(0,.sl r.nl (r.l.map Sn.D) (zsl r.nl 2) none),(3,.lref 0 0 2 0),(6,.lsl 1 0 xO.length 2 none),(7,I x9),(8,I (i10:Int))],[(0,⟨[.agg [I k.lo,I k.hi]],2,false⟩),(1,⟨xO.map Sn.D,2,false⟩)],2,0⟩=some (lr_r_Over_10 r k x9 (r_Over_10 x9 wd xO)):=by
 intro wd
 induction wd with
 |nil =>
  intro i10 xO hd10 hi10 hk xI hc0 hw0 hL10
  unfold r_Over_10
  obtain rfl:i10=r.l.length:=nil_eq hd10 hi10
  exact zr [.rw 46 (I (r.l.length:Int)),.dec false] (Ai (lt_no hd10) (Ai (zk Sn.D r) trivial)) (by kernel_rfl)
 |cons x10 wd ih =>
  intro i10 xO hd10 hi10 hk xI hc0 hw0 hL10
  have hlt10:=ze hd10
  unfold r_Over_10
  cases h18:decide ((w64 (0 - (zv (w64 (0 - x10.lo)) x9)))≤(zv x10.hi x9)) with
  |true =>
   have g18:=of_decide_eq_true h18
   exact zw (ks:=[0,3,6,7,8]) (st':=(sd45038 4 3 1 2 0 5 i10 xO x10 x9 r k)) [.rw 46 (I (r.l.length:Int)),.dec true,.el (.agg [I x10.lo,I x10.hi]),.pure (I (zv (w64 (0 - x10.lo)) x9)),.el (.agg [I x10.lo,I x10.hi]),.pure (I (zv x10.hi x9)),.dec true,.op (some 75) ⟨.lsl 4 0 ((xO++[(⟨w64 (0 - (zv (w64 (0 - x10.lo)) x9)),(zv x10.hi x9)⟩:Sn)]).length) 2 none,[(1,none),(4,some ⟨(xO++[(⟨w64 (0 - (zv (w64 (0 - x10.lo)) x9)),(zv x10.hi x9)⟩:Sn)]).map Sn.D,2,false⟩)],[1,3],5⟩,.rw 49 (I ((i10+1:Nat):Int))] (Ai (zZ (i:=i10) (by have:=ze hd10;omega)) (Ai (app_row (f:=Sn.D) (te:=zG) (gO:=zn [(0,⟨[.agg [I k.lo,I k.hi]],2,false⟩),(1,⟨xO.map Sn.D,2,false⟩),(2,⟨[.agg [I (w64 (0 - (zv (w64 (0 - x10.lo)) x9))),I (zv x10.hi x9)]],2,false⟩),(3,⟨[.agg [I (w64 (0 - (zv (w64 (0 - x10.lo)) x9))),I (zv x10.hi x9)]],2,false⟩)]) (nxt:=4) (o:=1) (o2:=3) (fz:=false) z6 xO (⟨w64 (0 - (zv (w64 (0 - x10.lo)) x9)),(zv x10.hi x9)⟩:Sn) (by kernel_rfl) (by kernel_rfl) rfl (by kernel_rfl) (by decide) ⟨by simp only [zG,big]<;>(omega),by simp only [big]<;>(omega)⟩) (Ai h18 (Ai (T_r_Down x10.hi x9 (by omega)) (Ai (el_at (s:=r) (f:=Sn.D) (k:=2) hd10) (Ai (T_r_Down (w64 (0 - x10.lo)) x9 (by omega)) (Ai (el_at (s:=r) (f:=Sn.D) (k:=2) hd10) (Ai (yl hd10) (Ai (zk Sn.D r) trivial))))))))) (by kernel_rfl) (by (simp only [sd45038,go_sem,length_set,Nat.reduceAdd,Nat.reduceEqDiff,Nat.reduceLT,Nat.reduceLeDiff,bI2,zc.idsL,zc.renL,zc.snapAll,z6.idsL,z6.renL,z6.snapAll])<;>rfl) (ih (i10+1) (xO++[(⟨w64 (0 - (zv (w64 (0 - x10.lo)) x9)),(zv x10.hi x9)⟩:Sn)]) (zf hd10) (ze hd10) (by omega) (by omega) (by omega) (by simp only [length_append,length_cons,length_nil] at *<;>omega) (by omega)) (by kernel_rfl)
  |false =>
   have g18:=of_decide_eq_false h18
   exact zw (ks:=[0,3,6,7,8]) (st':=(sd45039 2 0 1 3 i10 x10 x9 r xO k)) [.rw 46 (I (r.l.length:Int)),.dec true,.el (.agg [I x10.lo,I x10.hi]),.pure (I (zv (w64 (0 - x10.lo)) x9)),.el (.agg [I x10.lo,I x10.hi]),.pure (I (zv x10.hi x9)),.dec false,.rw 49 (I ((i10+1:Nat):Int))] (Ai (zZ (i:=i10) (by have:=ze hd10;omega)) (Ai h18 (Ai (T_r_Down x10.hi x9 (by omega)) (Ai (el_at (s:=r) (f:=Sn.D) (k:=2) hd10) (Ai (T_r_Down (w64 (0 - x10.lo)) x9 (by omega)) (Ai (el_at (s:=r) (f:=Sn.D) (k:=2) hd10) (Ai (yl hd10) (Ai (zk Sn.D r) trivial)))))))) (by kernel_rfl) (by (simp only [sd45039,go_sem,length_set,Nat.reduceAdd,Nat.reduceEqDiff,Nat.reduceLT,Nat.reduceLeDiff,bI2,zc.idsL,zc.renL,zc.snapAll,z6.idsL,z6.renL,z6.snapAll])<;>rfl) (ih (i10+1) xO (zf hd10) (ze hd10) (by omega) (by omega) (by omega) (by omega) (by omega)) (by kernel_rfl)
theorem ivt_r_Over_10 (r:GS Sn) (k:Sn) (x9:Int):∀(wd:List Sn) (i10:Nat) (xO:List Sn) (hd10:r.l.drop i10=wd) (hi10:i10≤r.l.length) (hk:1≤k.lo∧k.lo≤k.hi∧k.hi≤1000∧k.hi - k.lo≤99) (xI:r.l.length≤64) (hc0:k.lo≤x9∧x9≤k.hi) (hw0:(xO.length:Int)≤64 * (x9 - k.lo)+i10) (hL10:r.l.length≤9223372036854775807),iv_r_Over_10 r k x9 (r_Over_10 x9 wd xO):=by
 intro wd
 induction wd with
 |nil =>
  intro i10 xO hd10 hi10 hk xI hc0 hw0 hL10
  unfold r_Over_10
  obtain rfl:i10=r.l.length:=nil_eq hd10 hi10
  exact hw0
 |cons x10 wd ih =>
  intro i10 xO hd10 hi10 hk xI hc0 hw0 hL10
  have hlt10:=ze hd10
  unfold r_Over_10
  cases h18:decide ((w64 (0 - (zv (w64 (0 - x10.lo)) x9)))≤(zv x10.hi x9)) with
  |true =>
   have g18:=of_decide_eq_true h18
   exact ih (i10+1) (xO++[(⟨w64 (0 - (zv (w64 (0 - x10.lo)) x9)),(zv x10.hi x9)⟩:Sn)]) (zf hd10) (ze hd10) (by omega) (by omega) (by omega) (by simp only [length_append,length_cons,length_nil] at *<;>omega) (by omega)
  |false =>
   have g18:=of_decide_eq_false h18
   exact ih (i10+1) xO (zf hd10) (ze hd10) (by omega) (by omega) (by omega) (by omega) (by omega)

def sd45037 (ν0 ν1:Nat) (μ0:GS Sn) (μ1:Int) (μ2:Sn):St:=⟨81,[(47,B false),(46,I ((μ0.l.length:Nat):Int)),(45,.sl μ0.nl (μ0.l.map Sn.D) (zsl μ0.nl 2) none),(44,I ((μ0.l.length:Nat):Int)),(0,.sl μ0.nl (μ0.l.map Sn.D) (zsl μ0.nl 2) none),(3,.lref ν0 0 2 0),(6,.sl true [] 0 none),(7,I μ1),(8,I ((μ0.l.length:Nat):Int))],[(ν0,⟨[.agg [I μ2.lo,I μ2.hi]],2,false⟩)],ν1,ν0⟩

inductive LR_r_Over_10p1 where
 |x0 (xj:List Sn)
 |x1
instance:Inhabited LR_r_Over_10p1:=⟨.x0 default⟩
def r_Over_10p1a (xx:Int):List Sn→(List Sn)→LR_r_Over_10p1
 |[],xj=>.x0 xj
 |xv::xu,xj =>
  bif decide ((w64 (0 - (zv (w64 (0 - xv.lo)) xx)))≤(zv xv.hi xx)) then
   r_Over_10p1a xx xu (xj++[(⟨w64 (0 - (zv (w64 (0 - xv.lo)) xx)),(zv xv.hi xx)⟩:Sn)])
  else
   r_Over_10p1a xx xu xj
def r_Over_10p1 (xx:Int):List Sn→LR_r_Over_10p1
 |[]=>.x1
 |xv::xu =>
  bif decide ((w64 (0 - (zv (w64 (0 - xv.lo)) xx)))≤(zv xv.hi xx)) then
   r_Over_10p1a xx xu [(⟨w64 (0 - (zv (w64 (0 - xv.lo)) xx)),(zv xv.hi xx)⟩:Sn)]
  else
   r_Over_10p1 xx xu
def lr_r_Over_10p1 (r:GS Sn) (k:Sn) (xx:Int):LR_r_Over_10p1→Exit × St
 |.x0 xj=>((.exit 2),(sd45036 0 1 2 r xj xx k))
 |.x1=>((.exit 2),(sd45037 0 1 r xx k))
def iv_r_Over_10p1 (r:GS Sn) (k:Sn) (xx:Int):LR_r_Over_10p1→Prop
 |.x0 xj=>((xj.length:Int)≤64 * (xx - k.lo)+r.l.length)
 |.x1=>True
theorem lp_r_Over_10p1a (r:GS Sn) (k:Sn) (xx:Int):∀(xu:List Sn) (xH:Nat) (xj:List Sn) (xt:r.l.drop xH=xu) (wb:xH≤r.l.length) (hk:1≤k.lo∧k.lo≤k.hi∧k.hi≤1000∧k.hi - k.lo≤99) (xI:r.l.length≤64) (hc1:k.lo≤xx∧xx≤k.hi) (hw1:(xj.length:Int)≤64 * (xx - k.lo)+xH) (hL10p1:r.l.length≤9223372036854775807),(lim cfg).loop 20 lp20_10 ⟨81,[(0,.sl r.nl (r.l.map Sn.D) (zsl r.nl 2) none),(3,.lref 0 0 2 0),(6,.lsl 1 0 xj.length 2 none),(7,I xx),(8,I (xH:Int))],[(0,⟨[.agg [I k.lo,I k.hi]],2,false⟩),(1,⟨xj.map Sn.D,2,false⟩)],2,0⟩=some (lr_r_Over_10p1 r k xx (r_Over_10p1a xx xu xj)):=by
 intro xu
 induction xu with
 |nil =>
  intro xH xj xt wb hk xI hc1 hw1 hL10p1
  unfold r_Over_10p1a
  obtain rfl:xH=r.l.length:=nil_eq xt wb
  exact zr [.rw 46 (I (r.l.length:Int)),.dec false] (Ai (lt_no xt) (Ai (zk Sn.D r) trivial)) (by kernel_rfl)
 |cons xv xu ih =>
  intro xH xj xt wb hk xI hc1 hw1 hL10p1
  have hlt10p1:=ze xt
  unfold r_Over_10p1a
  cases h23:decide ((w64 (0 - (zv (w64 (0 - xv.lo)) xx)))≤(zv xv.hi xx)) with
  |true =>
   have g23:=of_decide_eq_true h23
   exact zw (ks:=[0,3,6,7,8]) (st':=(sd45038 4 3 1 2 0 5 xH xj xv xx r k)) [.rw 46 (I (r.l.length:Int)),.dec true,.el (.agg [I xv.lo,I xv.hi]),.pure (I (zv (w64 (0 - xv.lo)) xx)),.el (.agg [I xv.lo,I xv.hi]),.pure (I (zv xv.hi xx)),.dec true,.op (some 75) ⟨.lsl 4 0 ((xj++[(⟨w64 (0 - (zv (w64 (0 - xv.lo)) xx)),(zv xv.hi xx)⟩:Sn)]).length) 2 none,[(1,none),(4,some ⟨(xj++[(⟨w64 (0 - (zv (w64 (0 - xv.lo)) xx)),(zv xv.hi xx)⟩:Sn)]).map Sn.D,2,false⟩)],[1,3],5⟩,.rw 49 (I ((xH+1:Nat):Int))] (Ai (zZ (i:=xH) (by have:=ze xt;omega)) (Ai (app_row (f:=Sn.D) (te:=zG) (gO:=zn [(0,⟨[.agg [I k.lo,I k.hi]],2,false⟩),(1,⟨xj.map Sn.D,2,false⟩),(2,⟨[.agg [I (w64 (0 - (zv (w64 (0 - xv.lo)) xx))),I (zv xv.hi xx)]],2,false⟩),(3,⟨[.agg [I (w64 (0 - (zv (w64 (0 - xv.lo)) xx))),I (zv xv.hi xx)]],2,false⟩)]) (nxt:=4) (o:=1) (o2:=3) (fz:=false) z6 xj (⟨w64 (0 - (zv (w64 (0 - xv.lo)) xx)),(zv xv.hi xx)⟩:Sn) (by kernel_rfl) (by kernel_rfl) rfl (by kernel_rfl) (by decide) ⟨by simp only [zG,big]<;>(omega),by simp only [big]<;>(omega)⟩) (Ai h23 (Ai (T_r_Down xv.hi xx (by omega)) (Ai (el_at (s:=r) (f:=Sn.D) (k:=2) xt) (Ai (T_r_Down (w64 (0 - xv.lo)) xx (by omega)) (Ai (el_at (s:=r) (f:=Sn.D) (k:=2) xt) (Ai (yl xt) (Ai (zk Sn.D r) trivial))))))))) (by kernel_rfl) (by (simp only [sd45038,go_sem,length_set,Nat.reduceAdd,Nat.reduceEqDiff,Nat.reduceLT,Nat.reduceLeDiff,bI2,zc.idsL,zc.renL,zc.snapAll,z6.idsL,z6.renL,z6.snapAll])<;>rfl) (ih (xH+1) (xj++[(⟨w64 (0 - (zv (w64 (0 - xv.lo)) xx)),(zv xv.hi xx)⟩:Sn)]) (zf xt) (ze xt) (by omega) (by omega) (by omega) (by simp only [length_append,length_cons,length_nil] at *<;>omega) (by omega)) (by kernel_rfl)
  |false =>
   have g23:=of_decide_eq_false h23
   exact zw (ks:=[0,3,6,7,8]) (st':=(sd45039 2 0 1 3 xH xv xx r xj k)) [.rw 46 (I (r.l.length:Int)),.dec true,.el (.agg [I xv.lo,I xv.hi]),.pure (I (zv (w64 (0 - xv.lo)) xx)),.el (.agg [I xv.lo,I xv.hi]),.pure (I (zv xv.hi xx)),.dec false,.rw 49 (I ((xH+1:Nat):Int))] (Ai (zZ (i:=xH) (by have:=ze xt;omega)) (Ai h23 (Ai (T_r_Down xv.hi xx (by omega)) (Ai (el_at (s:=r) (f:=Sn.D) (k:=2) xt) (Ai (T_r_Down (w64 (0 - xv.lo)) xx (by omega)) (Ai (el_at (s:=r) (f:=Sn.D) (k:=2) xt) (Ai (yl xt) (Ai (zk Sn.D r) trivial)))))))) (by kernel_rfl) (by (simp only [sd45039,go_sem,length_set,Nat.reduceAdd,Nat.reduceEqDiff,Nat.reduceLT,Nat.reduceLeDiff,bI2,zc.idsL,zc.renL,zc.snapAll,z6.idsL,z6.renL,z6.snapAll])<;>rfl) (ih (xH+1) xj (zf xt) (ze xt) (by omega) (by omega) (by omega) (by omega) (by omega)) (by kernel_rfl)
theorem ivt_r_Over_10p1a (r:GS Sn) (k:Sn) (xx:Int):∀(xu:List Sn) (xH:Nat) (xj:List Sn) (xt:r.l.drop xH=xu) (wb:xH≤r.l.length) (hk:1≤k.lo∧k.lo≤k.hi∧k.hi≤1000∧k.hi - k.lo≤99) (xI:r.l.length≤64) (hc1:k.lo≤xx∧xx≤k.hi) (hw1:(xj.length:Int)≤64 * (xx - k.lo)+xH) (hL10p1:r.l.length≤9223372036854775807),iv_r_Over_10p1 r k xx (r_Over_10p1a xx xu xj):=by
 intro xu
 induction xu with
 |nil =>
  intro xH xj xt wb hk xI hc1 hw1 hL10p1
  unfold r_Over_10p1a
  obtain rfl:xH=r.l.length:=nil_eq xt wb
  exact hw1
 |cons xv xu ih =>
  intro xH xj xt wb hk xI hc1 hw1 hL10p1
  have hlt10p1:=ze xt
  unfold r_Over_10p1a
  cases h23:decide ((w64 (0 - (zv (w64 (0 - xv.lo)) xx)))≤(zv xv.hi xx)) with
  |true =>
   have g23:=of_decide_eq_true h23
   exact ih (xH+1) (xj++[(⟨w64 (0 - (zv (w64 (0 - xv.lo)) xx)),(zv xv.hi xx)⟩:Sn)]) (zf xt) (ze xt) (by omega) (by omega) (by omega) (by simp only [length_append,length_cons,length_nil] at *<;>omega) (by omega)
  |false =>
   have g23:=of_decide_eq_false h23
   exact ih (xH+1) xj (zf xt) (ze xt) (by omega) (by omega) (by omega) (by omega) (by omega)
theorem lp_r_Over_10p1 (r:GS Sn) (k:Sn) (xx:Int):∀(xu:List Sn) (xH:Nat) (xt:r.l.drop xH=xu) (wb:xH≤r.l.length) (hk:1≤k.lo∧k.lo≤k.hi∧k.hi≤1000∧k.hi - k.lo≤99) (xI:r.l.length≤64) (hc0:k.lo≤xx∧xx≤k.hi) (hL10p1:r.l.length≤9223372036854775807),(lim cfg).loop 20 lp20_10 ⟨81,[(0,.sl r.nl (r.l.map Sn.D) (zsl r.nl 2) none),(3,.lref 0 0 2 0),(6,.sl true [] 0 none),(7,I xx),(8,I (xH:Int))],[(0,⟨[.agg [I k.lo,I k.hi]],2,false⟩)],1,0⟩=some (lr_r_Over_10p1 r k xx (r_Over_10p1 xx xu)):=by
 intro xu
 induction xu with
 |nil =>
  intro xH xt wb hk xI hc0 hL10p1
  unfold r_Over_10p1
  obtain rfl:xH=r.l.length:=nil_eq xt wb
  exact zr [.rw 46 (I (r.l.length:Int)),.dec false] (Ai (lt_no xt) (Ai (zk Sn.D r) trivial)) (by kernel_rfl)
 |cons xv xu ih =>
  intro xH xt wb hk xI hc0 hL10p1
  have hlt10p1:=ze xt
  unfold r_Over_10p1
  cases h24:decide ((w64 (0 - (zv (w64 (0 - xv.lo)) xx)))≤(zv xv.hi xx)) with
  |true =>
   have g24:=of_decide_eq_true h24
   exact po_turn [.rw 46 (I (r.l.length:Int)),.dec true,.el (.agg [I xv.lo,I xv.hi]),.pure (I (zv (w64 (0 - xv.lo)) xx)),.el (.agg [I xv.lo,I xv.hi]),.pure (I (zv xv.hi xx)),.dec true,.rw 49 (I ((xH+1:Nat):Int))] (Ai (zZ (i:=xH) (by have:=ze xt;omega)) (Ai h24 (Ai (T_r_Down xv.hi xx (by omega)) (Ai (el_at (s:=r) (f:=Sn.D) (k:=2) xt) (Ai (T_r_Down (w64 (0 - xv.lo)) xx (by omega)) (Ai (el_at (s:=r) (f:=Sn.D) (k:=2) xt) (Ai (yl xt) (Ai (zk Sn.D r) trivial)))))))) (lp_r_Over_10p1a r k xx _ (xH+1) [(⟨w64 (0 - (zv (w64 (0 - xv.lo)) xx)),(zv xv.hi xx)⟩:Sn)] (zf xt) (ze xt) (by omega) (by omega) (by omega) (by simp only [length_append,length_cons,length_nil] at *<;>omega) (by omega)) (by kernel_rfl)
  |false =>
   have g24:=of_decide_eq_false h24
   exact po_turn [.rw 46 (I (r.l.length:Int)),.dec true,.el (.agg [I xv.lo,I xv.hi]),.pure (I (zv (w64 (0 - xv.lo)) xx)),.el (.agg [I xv.lo,I xv.hi]),.pure (I (zv xv.hi xx)),.dec false,.rw 49 (I ((xH+1:Nat):Int))] (Ai (zZ (i:=xH) (by have:=ze xt;omega)) (Ai h24 (Ai (T_r_Down xv.hi xx (by omega)) (Ai (el_at (s:=r) (f:=Sn.D) (k:=2) xt) (Ai (T_r_Down (w64 (0 - xv.lo)) xx (by omega)) (Ai (el_at (s:=r) (f:=Sn.D) (k:=2) xt) (Ai (yl xt) (Ai (zk Sn.D r) trivial)))))))) (ih (xH+1) (zf xt) (ze xt) (by omega) (by omega) (by omega) (by omega)) (by kernel_rfl)
theorem ivt_r_Over_10p1 (r:GS Sn) (k:Sn) (xx:Int):∀(xu:List Sn) (xH:Nat) (xt:r.l.drop xH=xu) (wb:xH≤r.l.length) (hk:1≤k.lo∧k.lo≤k.hi∧k.hi≤1000∧k.hi - k.lo≤99) (xI:r.l.length≤64) (hc0:k.lo≤xx∧xx≤k.hi) (hL10p1:r.l.length≤9223372036854775807),iv_r_Over_10p1 r k xx (r_Over_10p1 xx xu):=by
 intro xu
 induction xu with
 |nil =>
  intro xH xt wb hk xI hc0 hL10p1
  unfold r_Over_10p1
  obtain rfl:xH=r.l.length:=nil_eq xt wb
  exact trivial
 |cons xv xu ih =>
  intro xH xt wb hk xI hc0 hL10p1
  have hlt10p1:=ze xt
  unfold r_Over_10p1
  cases h24:decide ((w64 (0 - (zv (w64 (0 - xv.lo)) xx)))≤(zv xv.hi xx)) with
  |true =>
   have g24:=of_decide_eq_true h24
   exact ivt_r_Over_10p1a r k xx _ (xH+1) [(⟨w64 (0 - (zv (w64 (0 - xv.lo)) xx)),(zv xv.hi xx)⟩:Sn)] (zf xt) (ze xt) (by omega) (by omega) (by omega) (by simp only [length_append,length_cons,length_nil] at *<;>omega) (by omega)
  |false =>
   have g24:=of_decide_eq_false h24
   exact ih (xH+1) (zf xt) (ze xt) (by omega) (by omega) (by omega) (by omega)

def sd45042 (ν0 ν1 ν2:Nat) (μ0:Sn) (μ1:Int) (μ2:GS Sn) (μ3:List Sn):St:=⟨81,[(41,B false),(40,I μ0.hi),(39,.lref ν0 0 2 1),(38,I μ1),(0,.sl μ2.nl (μ2.l.map Sn.D) (zsl μ2.nl 2) none),(3,.lref ν0 0 2 0),(6,.lsl ν1 0 μ3.length 2 none),(7,I μ1)],[(ν0,⟨[.agg [I μ0.lo,I μ0.hi]],2,false⟩),(ν1,⟨μ3.map Sn.D,2,false⟩)],ν2,ν0⟩

def sd45043 (ν0 ν1:Nat) (μ0:Sn) (μ1:Int) (μ2:GS Sn):St:=⟨81,[(41,B false),(40,I μ0.hi),(39,.lref ν0 0 2 1),(38,I μ1),(0,.sl μ2.nl (μ2.l.map Sn.D) (zsl μ2.nl 2) none),(3,.lref ν0 0 2 0),(6,.sl true [] 0 none),(7,I μ1)],[(ν0,⟨[.agg [I μ0.lo,I μ0.hi]],2,false⟩)],ν1,ν0⟩

noncomputable def lp20_7:Code:=subC [1,1,1,1,0,1,0,0] (bodyC Tryz.f20)

def sd45044 (ν0 ν1 ν2:Nat) (μ0:Int) (μ1:GS Sn) (μ2:List Sn) (μ3:Sn):St:=⟨81,[(7,I (w64 (μ0+1))),(43,I (w64 (μ0+1))),(42,I μ0),(47,B false),(46,I ((μ1.l.length:Nat):Int)),(45,.sl μ1.nl (μ1.l.map Sn.D) (zsl μ1.nl 2) none),(44,I ((μ1.l.length:Nat):Int)),(0,.sl μ1.nl (μ1.l.map Sn.D) (zsl μ1.nl 2) none),(3,.lref ν0 0 2 0),(6,.lsl ν1 0 μ2.length 2 none),(7,I μ0),(8,I ((μ1.l.length:Nat):Int))],[(ν0,⟨[.agg [I μ3.lo,I μ3.hi]],2,false⟩),(ν1,⟨μ2.map Sn.D,2,false⟩)],ν2,ν0⟩

def sd45041 (ν0 ν1 ν2:Nat) (μ0:GS Sn) (μ1:List Sn) (μ2:Int) (μ3:Sn):St:=⟨81,[(0,.sl μ0.nl (μ0.l.map Sn.D) (zsl μ0.nl 2) none),(3,.lref ν0 0 2 0),(6,.lsl ν1 0 μ1.length 2 none),(7,I μ2),(8,I 0)],[(ν0,⟨[.agg [I μ3.lo,I μ3.hi]],2,false⟩),(ν1,⟨μ1.map Sn.D,2,false⟩)],ν2,ν0⟩

def sd45040 (ν0 ν1 ν2:Nat) (μ0:Sn) (μ1:Int) (μ2:GS Sn) (μ3:List Sn):St:=⟨81,[(8,I 0),(41,B true),(40,I μ0.hi),(39,.lref ν0 0 2 1),(38,I μ1),(0,.sl μ2.nl (μ2.l.map Sn.D) (zsl μ2.nl 2) none),(3,.lref ν0 0 2 0),(6,.lsl ν1 0 μ3.length 2 none),(7,I μ1)],[(ν0,⟨[.agg [I μ0.lo,I μ0.hi]],2,false⟩),(ν1,⟨μ3.map Sn.D,2,false⟩)],ν2,ν0⟩

inductive LR_r_Over_7 where
 |x0 (yS:List Sn) (x9:Int)
 |x1 (xx:Int)
 |out
instance:Inhabited LR_r_Over_7:=⟨.out⟩
def r_Over_7a (r:GS Sn) (k:Sn):Nat→(List Sn)→Int→LR_r_Over_7
 |0,_,_=>.out
 |xA+1,yS,x9 =>
  bif decide (x9≤k.hi) then
   match r_Over_10 x9 r.l yS with
   |.x0 xO =>
    r_Over_7a r k xA xO (w64 (x9+1))
  else
   .x0 yS x9
def r_Over_7 (r:GS Sn) (k:Sn):Nat→Int→LR_r_Over_7
 |0,_=>.out
 |xA+1,xx =>
  bif decide (xx≤k.hi) then
   match r_Over_10p1 xx r.l with
   |.x0 xj =>
    r_Over_7a r k xA xj (w64 (xx+1))
   |.x1 =>
    r_Over_7 r k xA (w64 (xx+1))
  else
   .x1 xx
def lr_r_Over_7 (r:GS Sn) (k:Sn):LR_r_Over_7→Exit × St
 |.x0 yS x9=>((.exit 0),(sd45042 0 1 2 k x9 r yS))
 |.x1 xx=>((.exit 0),(sd45043 0 1 k xx r))
 |.out=>(.normal,⟨0,[],[],0,0⟩)
def iv_r_Over_7 (r:GS Sn) (k:Sn):LR_r_Over_7→Prop
 |.x0 yS x9=>(k.lo≤x9∧x9≤k.hi+1)∧((yS.length:Int)≤64 * (x9 - k.lo))
 |.x1 xx=>(k.lo≤xx∧xx≤k.hi+1)
 |.out=>True
theorem lp_r_Over_7a (r:GS Sn) (k:Sn):∀(xA:Nat) (yS:List Sn) (x9:Int) (hf7:r_Over_7a r k xA yS x9≠.out) (hk:1≤k.lo∧k.lo≤k.hi∧k.hi≤1000∧k.hi - k.lo≤99) (xI:r.l.length≤64) (hc1:k.lo≤x9∧x9≤k.hi+1) (hw1:(yS.length:Int)≤64 * (x9 - k.lo)),(lim cfg).loop 20 lp20_7 ⟨81,[(0,.sl r.nl (r.l.map Sn.D) (zsl r.nl 2) none),(3,.lref 0 0 2 0),(6,.lsl 1 0 yS.length 2 none),(7,I x9)],[(0,⟨[.agg [I k.lo,I k.hi]],2,false⟩),(1,⟨yS.map Sn.D,2,false⟩)],2,0⟩=some (lr_r_Over_7 r k (r_Over_7a r k xA yS x9)):=by
 intro xA
 induction xA with
 |zero =>
  intro yS x9 hf7 hk xI hc1 hw1
  exact absurd rfl hf7
 |succ xA ih =>
  intro yS x9 hf7 hk xI hc1 hw1
  unfold r_Over_7a at hf7 ⊢
  revert hf7
  cases h16:decide (x9≤k.hi) with
  |true =>
   have g16:=of_decide_eq_true h16
   cases h19:r_Over_10 x9 r.l yS with
   |x0 xO =>
    try dsimp only
    have hv_h19:=ivt_r_Over_10 r k x9 r.l 0 yS (List.drop_zero) (Nat.zero_le _) (by omega) (by omega) (by omega) (by omega) (by omega)
    rw [h19] at hv_h19
    have hv_h19_0:=hv_h19
    try dsimp only [iv_r_Over_10] at hv_h19_0
    intro hf7
    exact zw (ks:=[0,3,6,7]) (st':=(sd45044 0 1 2 x9 r xO k)) [.dec true,.gloop (sd45041 0 1 2 r yS x9 k) (.exit 2) (sd45036 0 1 2 r xO x9 k)] (Ai (zB (q:=lr_r_Over_10 r k x9) (lp_r_Over_10 r k x9 r.l 0 yS (List.drop_zero) (Nat.zero_le _) (by omega) (by omega) (by omega) (by omega) (by omega)) h19) (Ai (gc_of (C:=cfg) (f:=20) (a:=lp20_10) (ks:=[0,3,6,7,8]) (st:=(sd45040 0 1 2 k x9 r yS)) (st1:=(sd45041 0 1 2 r yS x9 k)) (by kernel_rfl) (by (simp only [sd45040,sd45041,go_sem,length_set,Nat.reduceAdd,Nat.reduceEqDiff,Nat.reduceLT,Nat.reduceLeDiff,bI2,zc.idsL,zc.renL,zc.snapAll,z6.idsL,z6.renL,z6.snapAll])<;>rfl)) (Ai h16 trivial))) (by kernel_rfl) (by (simp only [sd45044,go_sem,length_set,Nat.reduceAdd,Nat.reduceEqDiff,Nat.reduceLT,Nat.reduceLeDiff,bI2,zc.idsL,zc.renL,zc.snapAll,z6.idsL,z6.renL,z6.snapAll])<;>rfl) (ih xO (w64 (x9+1)) hf7 (by omega) (by omega) (by simp only [length_append,length_cons,length_nil,zh] at *<;>omega) (by simp only [length_append,length_cons,length_nil,zh] at *<;>omega)) (by kernel_rfl)
  |false =>
   have g16:=of_decide_eq_false h16
   intro hf7
   exact zr [.dec false] (Ai h16 trivial) (by kernel_rfl)
theorem ivt_r_Over_7a (r:GS Sn) (k:Sn):∀(xA:Nat) (yS:List Sn) (x9:Int) (hf7:r_Over_7a r k xA yS x9≠.out) (hk:1≤k.lo∧k.lo≤k.hi∧k.hi≤1000∧k.hi - k.lo≤99) (xI:r.l.length≤64) (hc1:k.lo≤x9∧x9≤k.hi+1) (hw1:(yS.length:Int)≤64 * (x9 - k.lo)),iv_r_Over_7 r k (r_Over_7a r k xA yS x9):=by
 intro xA
 induction xA with
 |zero =>
  intro yS x9 hf7 hk xI hc1 hw1
  exact absurd rfl hf7
 |succ xA ih =>
  intro yS x9 hf7 hk xI hc1 hw1
  unfold r_Over_7a at hf7 ⊢
  revert hf7
  cases h16:decide (x9≤k.hi) with
  |true =>
   have g16:=of_decide_eq_true h16
   cases h19:r_Over_10 x9 r.l yS with
   |x0 xO =>
    try dsimp only
    have hv_h19:=ivt_r_Over_10 r k x9 r.l 0 yS (List.drop_zero) (Nat.zero_le _) (by omega) (by omega) (by omega) (by omega) (by omega)
    rw [h19] at hv_h19
    have hv_h19_0:=hv_h19
    try dsimp only [iv_r_Over_10] at hv_h19_0
    intro hf7
    exact ih xO (w64 (x9+1)) hf7 (by omega) (by omega) (by simp only [length_append,length_cons,length_nil,zh] at *<;>omega) (by simp only [length_append,length_cons,length_nil,zh] at *<;>omega)
  |false =>
   have g16:=of_decide_eq_false h16
   intro hf7
   exact ⟨hc1,hw1⟩
theorem lp_r_Over_7 (r:GS Sn) (k:Sn):∀(xA:Nat) (xx:Int) (hf7:r_Over_7 r k xA xx≠.out) (hk:1≤k.lo∧k.lo≤k.hi∧k.hi≤1000∧k.hi - k.lo≤99) (xI:r.l.length≤64) (hc0:k.lo≤xx∧xx≤k.hi+1),(lim cfg).loop 20 lp20_7 ⟨81,[(0,.sl r.nl (r.l.map Sn.D) (zsl r.nl 2) none),(3,.lref 0 0 2 0),(6,.sl true [] 0 none),(7,I xx)],[(0,⟨[.agg [I k.lo,I k.hi]],2,false⟩)],1,0⟩=some (lr_r_Over_7 r k (r_Over_7 r k xA xx)):=by
 intro xA
 induction xA with
 |zero =>
  intro xx hf7 hk xI hc0
  exact absurd rfl hf7
 |succ xA ih =>
  intro xx hf7 hk xI hc0
  unfold r_Over_7 at hf7 ⊢
  revert hf7
  cases h20:decide (xx≤k.hi) with
  |true =>
   have g20:=of_decide_eq_true h20
   cases h25:r_Over_10p1 xx r.l with
   |x0 xj =>
    try dsimp only
    have hv_h25:=ivt_r_Over_10p1 r k xx r.l 0 (List.drop_zero) (Nat.zero_le _) (by omega) (by omega) (by omega) (by omega)
    rw [h25] at hv_h25
    have hv_h25_0:=hv_h25
    try dsimp only [iv_r_Over_10p1] at hv_h25_0
    intro hf7
    exact zw (ks:=[0,3,6,7]) (st':=(sd45044 0 1 2 xx r xj k)) [.dec true,.loop (.exit 2) (sd45036 0 1 2 r xj xx k)] (Ai (zB (q:=lr_r_Over_10p1 r k xx) (lp_r_Over_10p1 r k xx r.l 0 (List.drop_zero) (Nat.zero_le _) (by omega) (by omega) (by omega) (by omega)) h25) (Ai h20 trivial)) (by kernel_rfl) (by (simp only [sd45044,go_sem,length_set,Nat.reduceAdd,Nat.reduceEqDiff,Nat.reduceLT,Nat.reduceLeDiff,bI2,zc.idsL,zc.renL,zc.snapAll,z6.idsL,z6.renL,z6.snapAll])<;>rfl) (lp_r_Over_7a r k _ xj (w64 (xx+1)) hf7 (by omega) (by omega) (by simp only [length_append,length_cons,length_nil,zh] at *<;>omega) (by simp only [length_append,length_cons,length_nil,zh] at *<;>omega)) (by kernel_rfl)
   |x1 =>
    try dsimp only
    intro hf7
    exact po_turn [.dec true,.loop (.exit 2) (sd45037 0 1 r xx k)] (Ai (zB (q:=lr_r_Over_10p1 r k xx) (lp_r_Over_10p1 r k xx r.l 0 (List.drop_zero) (Nat.zero_le _) (by omega) (by omega) (by omega) (by omega)) h25) (Ai h20 trivial)) (ih (w64 (xx+1)) hf7 (by omega) (by omega) (by simp only [length_append,length_cons,length_nil,zh] at *<;>omega)) (by kernel_rfl)
  |false =>
   have g20:=of_decide_eq_false h20
   intro hf7
   exact zr [.dec false] (Ai h20 trivial) (by kernel_rfl)
theorem ivt_r_Over_7 (r:GS Sn) (k:Sn):∀(xA:Nat) (xx:Int) (hf7:r_Over_7 r k xA xx≠.out) (hk:1≤k.lo∧k.lo≤k.hi∧k.hi≤1000∧k.hi - k.lo≤99) (xI:r.l.length≤64) (hc0:k.lo≤xx∧xx≤k.hi+1),iv_r_Over_7 r k (r_Over_7 r k xA xx):=by
 intro xA
 induction xA with
 |zero =>
  intro xx hf7 hk xI hc0
  exact absurd rfl hf7
 |succ xA ih =>
  intro xx hf7 hk xI hc0
  unfold r_Over_7 at hf7 ⊢
  revert hf7
  cases h20:decide (xx≤k.hi) with
  |true =>
   have g20:=of_decide_eq_true h20
   cases h25:r_Over_10p1 xx r.l with
   |x0 xj =>
    try dsimp only
    have hv_h25:=ivt_r_Over_10p1 r k xx r.l 0 (List.drop_zero) (Nat.zero_le _) (by omega) (by omega) (by omega) (by omega)
    rw [h25] at hv_h25
    have hv_h25_0:=hv_h25
    try dsimp only [iv_r_Over_10p1] at hv_h25_0
    intro hf7
    exact ivt_r_Over_7a r k _ xj (w64 (xx+1)) hf7 (by omega) (by omega) (by simp only [length_append,length_cons,length_nil,zh] at *<;>omega) (by simp only [length_append,length_cons,length_nil,zh] at *<;>omega)
   |x1 =>
    try dsimp only
    intro hf7
    exact ih (w64 (xx+1)) hf7 (by omega) (by omega) (by simp only [length_append,length_cons,length_nil,zh] at *<;>omega)
  |false =>
   have g20:=of_decide_eq_false h20
   intro hf7
   exact hc0

theorem r_Over_7_ne' (r:GS Sn) (k:Sn) (hk:k.hi≤1000):∀(f:Nat) (w:List Sn) (c:Int),1≤c→c≤k.hi+1→k.hi - c+1 < f→r_Over_7a r k f w c≠.out
 |0,w,c,h0,h1,h2=>by intro _;omega
 |f+1,w,c,h0,h1,h2=>by
  unfold r_Over_7a
  by_cases hc:c≤k.hi
  ·rw [decide_eq_true hc,zI (n:=c+1) (by omega) (by omega)]
   simp only [cond_true]
   repeat' split
   all_goals exact r_Over_7_ne' r k hk f _ _ (by omega) (by omega) (by omega)
  ·rw [decide_eq_false hc];intro z;cases z
theorem r_Over_7_ne'' (r:GS Sn) (k:Sn) (hk:k.hi≤1000):∀(f:Nat) (c:Int),1≤c→c≤k.hi+1→k.hi - c+1 < f→r_Over_7 r k f c≠.out
 |0,c,h0,h1,h2=>by intro _;omega
 |f+1,c,h0,h1,h2=>by
  unfold r_Over_7
  by_cases hc:c≤k.hi
  ·rw [decide_eq_true hc,zI (n:=c+1) (by omega) (by omega)]
   simp only [cond_true]
   repeat' split
   all_goals first|exact r_Over_7_ne' r k hk f _ _ (by omega) (by omega) (by omega)|exact r_Over_7_ne'' r k hk f _ (by omega) (by omega) (by omega)
  ·rw [decide_eq_false hc];intro z;cases z
theorem r_Over_7_ne (r:GS Sn) (k:Sn) (hk:1≤k.lo∧k.lo≤k.hi∧k.hi≤1000∧k.hi - k.lo≤99):r_Over_7 r k ((k.hi - k.lo).toNat+2) k.lo≠.out:=r_Over_7_ne'' r k hk.2.2.1 _ _ (by omega) (by omega) (by omega)

def r_Over (r:GS Sn) (k:Sn):(GS Sn) × Int :=
 bif (r_Valid r) then
  bif decide (k.lo < 1) then
   (GS.nil,1)
  else
   bif decide (k.lo>k.hi) then
    (GS.nil,1)
   else
    bif decide (k.hi>1000) then
     (GS.nil,1)
    else
     bif decide ((w64 (k.hi - k.lo))>99) then
      (GS.nil,1)
     else
      match r_Over_7 r k ((k.hi - k.lo).toNat+2) k.lo with
      |.x0 yS x9 =>
       bif (JJ (GS.some yS)).nl then
        (((r_Fit (JJ (GS.some yS))).1),((r_Fit (JJ (GS.some yS))).2))
       else
        (((r_Fit (JJ (GS.some yS))).1),((r_Fit (JJ (GS.some yS))).2))
      |.x1 xx =>
       (((r_Fit (JJ GS.nil)).1),((r_Fit (JJ GS.nil)).2))
      |.out =>
       default
 else
  (GS.nil,20)

def r_Over_o1 (r:GS Sn) (k:Sn) (yS:List Sn) (x9:Int):List Ora:=[.pure (B (r_Valid r)),.dec true,.dec false,.dec false,.dec false,.dec false,.loop (.exit 0) (sd45042 0 1 2 k x9 r yS)]

theorem T_r_Over (r:GS Sn) (k:Sn) (hLr:r.l.length≤9223372036854775807):(lim cfg).pure 20 [GS.D Sn.D 2 r,Sn.D k]=some (.tup [GS.D Sn.D 2 ((r_Over r k).1),I ((r_Over r k).2)]):=by
 unfold r_Over
 cases h1:(r_Valid r) with
 |true =>
  have g1:=valid_len h1
  cases h2:decide (k.lo < 1) with
  |true =>
   have g2:=of_decide_eq_true h2
   exact zl [.pure (B (r_Valid r)),.dec true,.dec true] (Ai h2 (Ai h1 (Ai (T_r_Valid r (by omega)) trivial))) (by kernel_rfl)
  |false =>
   have g2:=of_decide_eq_false h2
   cases h3:decide (k.lo>k.hi) with
   |true =>
    have g3:=of_decide_eq_true h3
    exact zl [.pure (B (r_Valid r)),.dec true,.dec false,.dec true] (Ai h3 (Ai h2 (Ai h1 (Ai (T_r_Valid r (by omega)) trivial)))) (by kernel_rfl)
   |false =>
    have g3:=of_decide_eq_false h3
    cases h4:decide (k.hi>1000) with
    |true =>
     have g4:=of_decide_eq_true h4
     exact zl [.pure (B (r_Valid r)),.dec true,.dec false,.dec false,.dec true] (Ai h4 (Ai h3 (Ai h2 (Ai h1 (Ai (T_r_Valid r (by omega)) trivial))))) (by kernel_rfl)
    |false =>
     have g4:=of_decide_eq_false h4
     cases h5:decide ((w64 (k.hi - k.lo))>99) with
     |true =>
      have g5:=of_decide_eq_true h5
      exact zl [.pure (B (r_Valid r)),.dec true,.dec false,.dec false,.dec false,.dec true] (Ai h5 (Ai h4 (Ai h3 (Ai h2 (Ai h1 (Ai (T_r_Valid r (by omega)) trivial)))))) (by kernel_rfl)
     |false =>
      have hk:=over_k2 (by assumption) (by assumption) (by assumption) h5
      cases h26:r_Over_7 r k ((k.hi - k.lo).toNat+2) k.lo with
      |x0 yS x9 =>
       try dsimp only
       have xW:=ivt_r_Over_7 r k ((k.hi - k.lo).toNat+2) k.lo (r_Over_7_ne _ _ hk) (by omega) (by omega) (by omega)
       rw [h26] at xW
       obtain ⟨xR,hv_h26_1⟩:=xW
       try dsimp only [iv_r_Over_7] at xR
       try dsimp only [iv_r_Over_7] at hv_h26_1
       have p1:=(zB (q:=lr_r_Over_7 r k) (lp_r_Over_7 r k ((k.hi - k.lo).toNat+2) k.lo (r_Over_7_ne _ _ hk) (by omega) (by omega) (by omega)) h26)
       cases h27:(JJ (GS.some yS)).nl with
       |true =>
        exact zl ((r_Over_o1 r k yS x9)++[.pureS (.sl ((JJ (GS.some yS)).nl) (((JJ (GS.some yS)).l).map Sn.D) (zsl ((JJ (GS.some yS)).nl) 2) none) true [(1,.sl false (yS.map Sn.D) 2 none,[1])],.pure (.tup [.sl (((r_Fit (JJ (GS.some yS))).1).nl) ((((r_Fit (JJ (GS.some yS))).1).l).map Sn.D) (zsl (((r_Fit (JJ (GS.some yS))).1).nl) 2) none,I ((r_Fit (JJ (GS.some yS))).2)])]) (Ai (T_r_Fit (JJ (GS.some yS))) (Ai (Ai (show flat fuelD (.sl ((JJ (GS.some yS)).nl) (((JJ (GS.some yS)).l).map Sn.D) (zsl ((JJ (GS.some yS)).nl) 2) none)=true from (by rw [h27]<;>kernel_rfl)) (Ai (Ai (yx (gO:=zn [(0,⟨[.agg [I k.lo,I k.hi]],2,false⟩),(1,⟨yS.map Sn.D,2,false⟩)]) (o:=1) (len:=yS.length) (cap:=none) (fz:=false) z6 yS (by kernel_rfl) (by omega)) trivial) (T_JJ (GS.some yS) (by simp only [ye,yo,GS.some_l,length_set,length_append,length_cons,length_nil] at *<;>first|assumption|omega)))) (Ai p1 (Ai h5 (Ai h4 (Ai h3 (Ai h2 (Ai h1 (Ai (T_r_Valid r (by omega)) trivial))))))))) (by kernel_rfl)
       |false =>
        exact zl ((r_Over_o1 r k yS x9)++[.pureS (.sl ((JJ (GS.some yS)).nl) (((JJ (GS.some yS)).l).map Sn.D) (zsl ((JJ (GS.some yS)).nl) 2) none) false [(1,.sl false (yS.map Sn.D) 2 none,[1])],.pure (.tup [.sl (((r_Fit (JJ (GS.some yS))).1).nl) ((((r_Fit (JJ (GS.some yS))).1).l).map Sn.D) (zsl (((r_Fit (JJ (GS.some yS))).1).nl) 2) none,I ((r_Fit (JJ (GS.some yS))).2)])]) (Ai (T_r_Fit (JJ (GS.some yS))) (Ai (Ai (show flat fuelD (.sl ((JJ (GS.some yS)).nl) (((JJ (GS.some yS)).l).map Sn.D) (zsl ((JJ (GS.some yS)).nl) 2) none)=false from (by rw [h27]<;>kernel_rfl)) (Ai (Ai (yx (gO:=zn [(0,⟨[.agg [I k.lo,I k.hi]],2,false⟩),(1,⟨yS.map Sn.D,2,false⟩)]) (o:=1) (len:=yS.length) (cap:=none) (fz:=false) z6 yS (by kernel_rfl) (by omega)) trivial) (T_JJ (GS.some yS) (by simp only [ye,yo,GS.some_l,length_set,length_append,length_cons,length_nil] at *<;>first|assumption|omega)))) (Ai p1 (Ai h5 (Ai h4 (Ai h3 (Ai h2 (Ai h1 (Ai (T_r_Valid r (by omega)) trivial))))))))) (by kernel_rfl)
      |x1 xx =>
       try dsimp only
       have xW:=ivt_r_Over_7 r k ((k.hi - k.lo).toNat+2) k.lo (r_Over_7_ne _ _ hk) (by omega) (by omega) (by omega)
       rw [h26] at xW
       have xR:=xW
       try dsimp only [iv_r_Over_7] at xR
       exact zl [.pure (B (r_Valid r)),.dec true,.dec false,.dec false,.dec false,.dec false,.loop (.exit 0) (sd45043 0 1 k xx r),.pure (.sl ((JJ GS.nil).nl) (((JJ GS.nil).l).map Sn.D) (zsl ((JJ GS.nil).nl) 2) none),.pure (.tup [.sl (((r_Fit (JJ GS.nil)).1).nl) ((((r_Fit (JJ GS.nil)).1).l).map Sn.D) (zsl (((r_Fit (JJ GS.nil)).1).nl) 2) none,I ((r_Fit (JJ GS.nil)).2)])] (Ai (T_r_Fit (JJ GS.nil)) (Ai (T_JJ GS.nil (by simp [GS.nil])) (Ai (zB (q:=lr_r_Over_7 r k) (lp_r_Over_7 r k ((k.hi - k.lo).toNat+2) k.lo (r_Over_7_ne _ _ hk) (by omega) (by omega) (by omega)) h26) (Ai h5 (Ai h4 (Ai h3 (Ai h2 (Ai h1 (Ai (T_r_Valid r (by omega)) trivial))))))))) (by kernel_rfl)
      |out =>
       exact absurd h26 ((r_Over_7_ne _ _ hk))
 |false =>
  exact zl [.pure (B (r_Valid r)),.dec false] (Ai h1 (Ai (T_r_Valid r (by omega)) trivial)) (by kernel_rfl)
end Go.VS

namespace Go.VS
open Go
theorem rdown_eq {a b:Int} (hb:1≤b) (ha:-4398046511104≤a∧a≤4398046511104):zv a b=a / b:=by
 rw [← down_eq hb ha];rfl
end Go.VS

namespace Go.VS
open List (length_append length_map)
open Go
def Bad (k:Sn) (lo hi:Int):Prop:=lo+65≤hi∧Gp k (lo+64)
theorem bad_cm {k:Sn} {lo hi:Int} (h:¬Bad k lo hi):Cm k hi 65 lo:=by
 by_cases h1:lo+65≤hi
 ·refine .inr ⟨by omega,?_⟩
  rw [show lo+((65:Nat):Int) - 1=lo+64 by omega]
  exact fun g=>h ⟨h1,g⟩
 ·exact .inl (by omega)
def rp_r (lo hi:Int) (k:Sn):LR_r_products_3→List Sn × Bool
 |.x0 _ _=>([],false)
 |.x1 v i=>(v++[(⟨w64 (i * k.lo),w64 (hi * k.hi)⟩:Sn)],true)
 |.x2 v _=>(v,true)
 |.x3=>([(⟨w64 (lo * k.lo),w64 (hi * k.hi)⟩:Sn)],true)
 |.x4=>([],true)
 |.out=>([],false)
open Classical in
theorem rp3a_eq {lo hi:Int} {k:Sn} (hk:KOk k) (hh:hi≤1099511627776):∀(f:Nat) (v:List Sn) (i:Int),0≤lo→i=lo+v.length→lo≤1099511627777→Gp k (i - 1)→1≤v.length→v.length≤65→67≤v.length+f→rp_r lo hi k (r_products_3a lo hi k f v i)=if Bad k lo hi then ([],false) else (v++prodL k hi (66 - v.length) i,true)
 |0,v,i,h0,hi',h1,h2,h3,h4,h5=>by omega
 |f+1,v,i,h0,hi',h1,h2,h3,h4,h5=>by
  have k1:=hk.1
  have k2:=hk.2.1
  have k3:=hk.2.2
  unfold r_products_3a
  by_cases c1:i≤hi
  ·rw [decide_eq_true c1,cond_true]
   by_cases c2:v.length=65
   ·have hb:Bad k lo hi:=⟨by omega,by rw [show lo+64=i - 1 by omega];exact h2⟩
    rw [decide_eq_true (show (v.length:Int)>64 by omega),if_pos hb];rfl
   ·rw [decide_eq_false (show ¬(v.length:Int)>64 by omega),cond_false]
    obtain ⟨m,hm⟩:∃m,66 - v.length=m+1:=⟨65 - v.length,by omega⟩
    rw [hm]
    have hg:decide ((w64 ((w64 (i+1)) * k.lo))≤(w64 ((w64 (i * k.hi))+1)))=decide (¬Gp k i):=by
     have b1:=mul_b (a:=i) (b:=k.hi) (by omega) (by omega)
     rw [zI (n:=i+1) (by omega) (by omega),yk (by omega) (by omega),yk (by omega) (by omega),zI (by omega) (by omega)]
     have:=gp_succ (k:=k) (a:=i)
     exact decide_eq_decide.2 (by rw [this];omega)
    rw [hg]
    unfold prodL
    rw [if_pos c1]
    by_cases c3:Gp k i
    ·rw [decide_eq_false (fun h=>h c3),cond_false,if_neg (show ¬(k.lo - 1≤i * (k.hi - k.lo)) by unfold Gp at c3;omega),zI (n:=i+1) (by omega) (by omega),
      rp3a_eq hk hh f _ (i+1) h0 (by rw [len_one];omega) h1 (by rw [show i+1 - 1=i by omega];exact c3) (by rw [len_one];omega) (by rw [len_one];omega) (by rw [len_one];omega),len_one,
      show 66 - (v.length+1)=m by omega,yk (by omega) (by omega),yk (by omega) (by omega),List.append_assoc];rfl
    ·have hb:¬Bad k lo hi:=fun h=>gp_mono hk (show i≤lo+64 by omega) c3 h.2
     rw [decide_eq_true c3,cond_true,if_pos (show k.lo - 1≤i * (k.hi - k.lo) by unfold Gp at c3;omega),if_neg hb]
     simp only [rp_r]
     rw [yk (by omega) (by omega),yk (by omega) (by omega)]
  ·have hb:¬Bad k lo hi:=fun h=>by have:=h.1;omega
   rw [decide_eq_false c1,if_neg hb]
   have hp:prodL k hi (66 - v.length) i=[]:=by
    generalize 66 - v.length=m
    cases m with
    |zero=>rfl
    |succ m=>unfold prodL;rw [if_neg c1]
   rw [hp]
   simp [rp_r]
open Classical in
theorem rp3_eq {lo hi:Int} {k:Sn} (hk:KOk k) (hh:-1099511627776≤hi∧hi≤1099511627776) (h0:0≤lo) (h1:lo≤1099511627777):rp_r lo hi k (r_products_3 lo hi k 68)=if Bad k lo hi then ([],false) else (prodL k hi 66 lo,true):=by
 have k1:=hk.1
 have k2:=hk.2.1
 have k3:=hk.2.2
 rw [show (68:Nat)=67+1 from rfl]
 unfold r_products_3
 by_cases c1:lo≤hi
 ·rw [decide_eq_true c1]
  simp only [cond_true]
  have hg:decide ((w64 ((w64 (lo+1)) * k.lo))≤(w64 ((w64 (lo * k.hi))+1)))=decide (¬Gp k lo):=by
   have b1:=mul_b (a:=lo) (b:=k.hi) (by omega) (by omega)
   rw [zI (n:=lo+1) (by omega) (by omega),yk (by omega) (by omega),yk (by omega) (by omega),zI (by omega) (by omega)]
   have:=gp_succ (k:=k) (a:=lo)
   exact decide_eq_decide.2 (by rw [this];omega)
  rw [hg]
  unfold prodL
  rw [if_pos c1]
  by_cases c3:Gp k lo
  ·rw [decide_eq_false (fun h=>h c3),cond_false,if_neg (show ¬(k.lo - 1≤lo * (k.hi - k.lo)) by unfold Gp at c3;omega),zI (n:=lo+1) (by omega) (by omega),
    rp3a_eq hk hh.2 67 _ (lo+1) h0 (by simp) h1 (by rw [show lo+1 - 1=lo by omega];exact c3) (by simp) (by simp) (by simp),yk (by omega) (by omega),yk (by omega) (by omega)];rfl
  ·have hb:¬Bad k lo hi:=fun h=>gp_mono hk (show lo≤lo+64 by omega) c3 h.2
   rw [decide_eq_true c3,cond_true,if_pos (show k.lo - 1≤lo * (k.hi - k.lo) by unfold Gp at c3;omega),if_neg hb]
   simp only [rp_r]
   rw [yk (by omega) (by omega),yk (by omega) (by omega)]
 ·have hb:¬Bad k lo hi:=fun h=>by have:=h.1;omega
  rw [decide_eq_false c1,if_neg hb]
  unfold prodL
  rw [if_neg c1]
  simp [rp_r]
open Classical in
theorem rprod_eq {lo hi:Int} {k:Sn} (hk:KOk k) (hh:-1099511627776≤hi∧hi≤1099511627776) (h0:0≤lo) (h1:lo≤1099511627777):((z7 lo hi k).1.l,(z7 lo hi k).2)=if Bad k lo hi then ([],false) else (prodL k hi 66 lo,true):=by
 rw [← rp3_eq hk hh h0 h1]
 unfold z7
 cases h:r_products_3 lo hi k 68<;>first|rfl|exact absurd h (r_products_3_ne lo hi k)
theorem rprod_bad {lo hi:Int} {k:Sn} (hk:KOk k) (hh:-1099511627776≤hi∧hi≤1099511627776) (h0:0≤lo) (h1:lo≤1099511627777) (hb:Bad k lo hi):(z7 lo hi k).2=false:=by
 have:=rprod_eq hk hh h0 h1
 rw [if_pos hb] at this
 exact (Prod.mk.inj this).2
theorem rprod_good {lo hi:Int} {k:Sn} (hk:KOk k) (hh:-1099511627776≤hi∧hi≤1099511627776) (h0:0≤lo) (h1:lo≤1099511627777) (hb:¬Bad k lo hi):(z7 lo hi k).1.l=prodL k hi 66 lo∧(z7 lo hi k).2=true:=by
 have:=rprod_eq hk hh h0 h1
 rw [if_neg hb] at this
 exact Prod.mk.inj this
theorem rT15_eq:∀(l v:List Sn),r_Times_15 l v=.x0 (v++l.map negW)
 |[],v=>by simp [r_Times_15]
 |x::l,v=>by unfold r_Times_15;rw [rT15_eq l];simp [negW]
theorem rT15a_eq:∀(l v:List Sn),r_Times_15p1a l v=.x0 (v++l.map negW)
 |[],v=>by simp [r_Times_15p1a]
 |x::l,v=>by unfold r_Times_15p1a;rw [rT15a_eq l];simp [negW]
theorem rT15p_eq (l:List Sn):(l=[]∧r_Times_15p1 l=.x1)∨r_Times_15p1 l=.x0 (l.map negW):=by
 cases l with
 |nil=>exact .inl ⟨rfl,rfl⟩
 |cons x l=>right;show r_Times_15p1a l [negW x]=_;rw [rT15a_eq];rfl
def rT_r:LR_r_Times_7→Option (List Sn)
 |.x0 v=>some v
 |.x4=>some []
 |_=>none
def OkX (k x:Sn):Prop:=¬Bad k (max x.lo 0) x.hi∧¬Bad k (max (-x.hi) 1) (-x.lo)
theorem negW_S {k:Sn} (hk:KOk k) {hi:Int} (hh:hi≤1099511627776) {n:Nat} {x:Int} (hx:0≤x):(prodL k hi n x).map negW=(prodL k hi n x).map negS:=List.map_congr_left fun s hs=>by
 have:=prodL_bd k hk hi hh n x hx s hs
 unfold negW negS
 rw [zI (by omega) (by omega),zI (by omega) (by omega)]
 congr 1<;>omega
section
variable {k:Sn} (hk:KOk k)
include hk
theorem rT7a_eq:∀(l:List Sn) (i:Nat) (v:List Sn),(∀x∈l,-1099511627776≤x.lo∧x.lo≤x.hi∧x.hi≤1099511627776)→((∀x∈l,OkX k x)∧rT_r (r_Times_7a k l i v)=some (v++l.flatMap (halves k 66 66 1)))∨((∃x∈l,¬OkX k x)∧rT_r (r_Times_7a k l i v)=none)
 |[],i,v,_=>.inl ⟨(fun x h=>by cases h),by simp [r_Times_7a,rT_r]⟩
 |x::l,i,v,hb=>by
  have hx:=hb x List.mem_cons_self
  have hl:=fun y hy=>hb y (List.mem_cons_of_mem _ hy)
  unfold r_Times_7a
  rw [neg_w (a:=x.lo) (by omega),neg_w (a:=x.hi) (by omega),imax_eq,imax_eq]
  by_cases b1:Bad k (max x.lo 0) x.hi
  ·right
   refine ⟨⟨x,List.mem_cons_self,fun h=>h.1 b1⟩,?_⟩
   rw [rprod_bad hk (by omega) (by omega) (by omega) b1]
   cases (z7 (max (-x.hi) 1) (-x.lo) k).2<;>rfl
  ·obtain ⟨p1,p2⟩:=rprod_good hk (by omega) (by omega) (by omega) b1
   rw [p2,cond_true]
   by_cases b2:Bad k (max (-x.hi) 1) (-x.lo)
   ·right
    refine ⟨⟨x,List.mem_cons_self,fun h=>h.2 b2⟩,?_⟩
    rw [rprod_bad hk (by omega) (by omega) (by omega) b2];rfl
   ·obtain ⟨q1,q2⟩:=rprod_good hk (by omega) (by omega) (by omega) b2
    rw [q2,cond_true,p1,q1,rT15_eq,rT15_eq,negW_S hk (by omega) (by omega)]
    dsimp only
    have e:∀w:List Sn,rT_r (r_Times_7a k l (i+1) (v++(w++((prodL k (-x.lo) 66 (max (-x.hi) 1)).map negS))))=rT_r (r_Times_7a k l (i+1) (v++w++(prodL k (-x.lo) 66 (max (-x.hi) 1)).map negS)):=fun w=>by rw [List.append_assoc]
    have hc:rT_r (bif (prodL k x.hi 66 (max x.lo 0)).isEmpty then r_Times_7a k l (i+1) (v++(prodL k (-x.lo) 66 (max (-x.hi) 1)).map negS) else r_Times_7a k l (i+1) (v++prodL k x.hi 66 (max x.lo 0)++(prodL k (-x.lo) 66 (max (-x.hi) 1)).map negS))=rT_r (r_Times_7a k l (i+1) (v++halves k 66 66 1 x)):=by
     unfold halves
     rw [e]
     cases h:prodL k x.hi 66 (max x.lo 0) with
     |nil=>simp
     |cons a b=>simp
    rw [hc]
    rcases rT7a_eq l (i+1) (v++halves k 66 66 1 x) hl with ⟨h1,h2⟩|⟨⟨y,hy,h1⟩,h2⟩
    ·left
     refine ⟨fun y hy=>?_,by rw [h2,List.flatMap_cons,List.append_assoc]⟩
     rcases List.mem_cons.1 hy with rfl|hy
     ·exact ⟨b1,b2⟩
     ·exact h1 y hy
    ·exact .inr ⟨⟨y,List.mem_cons_of_mem _ hy,h1⟩,h2⟩
theorem rT7_eq:∀(l:List Sn) (i:Nat),(∀x∈l,-1099511627776≤x.lo∧x.lo≤x.hi∧x.hi≤1099511627776)→((∀x∈l,OkX k x)∧rT_r (r_Times_7 k l i)=some (l.flatMap (halves k 66 66 1)))∨((∃x∈l,¬OkX k x)∧rT_r (r_Times_7 k l i)=none)
 |[],i,_=>.inl ⟨(fun x h=>by cases h),rfl⟩
 |x::l,i,hb=>by
  have hx:=hb x List.mem_cons_self
  have hl:=fun y hy=>hb y (List.mem_cons_of_mem _ hy)
  unfold r_Times_7
  rw [neg_w (a:=x.lo) (by omega),neg_w (a:=x.hi) (by omega),imax_eq,imax_eq]
  by_cases b1:Bad k (max x.lo 0) x.hi
  ·right
   refine ⟨⟨x,List.mem_cons_self,fun h=>h.1 b1⟩,?_⟩
   rw [rprod_bad hk (by omega) (by omega) (by omega) b1]
   cases (z7 (max (-x.hi) 1) (-x.lo) k).2<;>rfl
  ·obtain ⟨p1,p2⟩:=rprod_good hk (by omega) (by omega) (by omega) b1
   rw [p2,cond_true]
   by_cases b2:Bad k (max (-x.hi) 1) (-x.lo)
   ·right
    refine ⟨⟨x,List.mem_cons_self,fun h=>h.2 b2⟩,?_⟩
    rw [rprod_bad hk (by omega) (by omega) (by omega) b2];rfl
   ·obtain ⟨q1,q2⟩:=rprod_good hk (by omega) (by omega) (by omega) b2
    rw [q2,cond_true,p1,q1]
    have fin:∀w:List Sn,w=halves k 66 66 1 x→((∀y∈x::l,OkX k y)∧rT_r (r_Times_7a k l (i+1) w)=some ((x::l).flatMap (halves k 66 66 1)))∨((∃y∈x::l,¬OkX k y)∧rT_r (r_Times_7a k l (i+1) w)=none):=fun w hw=>by
     rw [hw]
     rcases rT7a_eq hk l (i+1) (halves k 66 66 1 x) hl with ⟨h1,h2⟩|⟨⟨y,hy,h1⟩,h2⟩
     ·left
      refine ⟨fun y hy=>?_,by rw [h2,List.flatMap_cons]⟩
      rcases List.mem_cons.1 hy with rfl|hy
      ·exact ⟨b1,b2⟩
      ·exact h1 y hy
     ·exact .inr ⟨⟨y,List.mem_cons_of_mem _ hy,h1⟩,h2⟩
    cases hp:(prodL k x.hi 66 (max x.lo 0)).isEmpty with
    |false =>
     rw [cond_false,rT15_eq,negW_S hk (by omega) (by omega)]
     exact fin _ rfl
    |true =>
     have hp:prodL k x.hi 66 (max x.lo 0)=[]:=by simpa using hp
     rw [cond_true]
     rcases rT15p_eq (prodL k (-x.lo) 66 (max (-x.hi) 1)) with ⟨h1,h2⟩|h2<;>rw [h2]<;>dsimp only
     ·have he:halves k 66 66 1 x=[]:=by unfold halves;rw [hp,h1];rfl
      rcases rT7_eq l (i+1) hl with ⟨h3,h4⟩|⟨⟨y,hy,h3⟩,h4⟩
      ·left
       refine ⟨fun y hy=>?_,by rw [h4,List.flatMap_cons,he];rfl⟩
       rcases List.mem_cons.1 hy with rfl|hy
       ·exact ⟨b1,b2⟩
       ·exact h3 y hy
      ·exact .inr ⟨⟨y,List.mem_cons_of_mem _ hy,h3⟩,h4⟩
     ·rw [negW_S hk (by omega) (by omega)]
      exact fin _ (by unfold halves;rw [hp];rfl)
end
theorem halves_len (k:Sn) (n m:Nat) (d:Int) (x:Sn):(halves k n m d x).length≤n+m:=by
 unfold halves
 rw [length_append,length_map]
 have:=prodL_len k x.hi n (max x.lo 0)
 have:=prodL_len k (-x.lo) m (max (-x.hi) d)
 omega
theorem same_Times (r:GS Sn) (k:Sn):l_same (zY r k).1 (zY r k).2 (r_Times r k).1 (r_Times r k).2=true:=by
 by_cases hr:Ok r.l
 rotate_left
 ·refine same_eq ?_
  rw [Times_no hr]
  unfold r_Times
  rw [valid_no.2 hr];rfl
 by_cases hk:KOk k
 rotate_left
 ·refine same_eq ?_
  rw [Times_bad hr hk]
  unfold r_Times
  rw [valid_iff.2 hr]
  simp only [cond_true]
  by_cases h1:k.lo < 0
  ·rw [decide_eq_true h1];rfl
  ·rw [decide_eq_false h1]
   by_cases h2:k.lo>k.hi
   ·rw [decide_eq_true h2];rfl
   ·rw [decide_eq_false h2]
    by_cases h3:k.hi>1000
    ·rw [decide_eq_true h3];rfl
    ·exact absurd ⟨by omega,by omega,by omega⟩ hk
 have k1:=hk.1
 have k2:=hk.2.1
 have k3:=hk.2.2
 have hbx:=ok_bx hr
 have g:=Times_gr hr hk
 have sound:∀y,In (r.l.flatMap (timesL k)) y→TimesS k r.l y:=fun y hy=>by
  obtain ⟨x,hx,h⟩:=In_flat.1 hy
  obtain ⟨a,a1,a2,a3⟩:=halves_sound hk (Int.le_refl 0) (by rw [timesL_halves] at h;exact h)
  exact ⟨a,⟨x,hx,a1,a2⟩,a3⟩
 have ne:∀s∈r.l.flatMap (timesL k),s.lo≤s.hi:=flat_ne fun x hx s hs=>(halves_bd hk (Int.le_refl 0) (hbx x hx) s hs).2.1
 unfold r_Times
 rw [valid_iff.2 hr,decide_eq_false (show ¬k.lo < 0 by omega),decide_eq_false (show ¬k.lo>k.hi by omega),decide_eq_false (show ¬k.hi>1000 by omega)]
 simp only [cond_true,cond_false]
 rcases rT7_eq hk r.l 0 hbx with ⟨ha,he⟩|⟨⟨x,hx,ha⟩,he⟩
 ·-- all fits
  have hin:∀y,In (r.l.flatMap (timesL k)) y↔In (r.l.flatMap (halves k 66 66 1)) y:=fun y=>by
   constructor
   ·intro hy
    obtain ⟨a,⟨x,hx,a1,a2⟩,a3⟩:=sound y hy
    refine In_flat.2 ⟨x,hx,halves_all hk (by omega) (by omega) ?_ ?_ a1 a2 a3⟩
    ·exact cm_mono hk (bad_cm (ha x hx).1) (by omega) (by omega)
    ·exact cm_mono hk (bad_cm (ha x hx).2) (by omega) (by omega)
   ·intro hy
    obtain ⟨x,hx,h⟩:=In_flat.1 hy
    obtain ⟨a,a1,a2,a3⟩:=halves_sound hk (by omega) h
    refine In_flat.2 ⟨x,hx,?_⟩
    rw [timesL_halves]
    refine halves_all hk (by omega) (by omega) ?_ ?_ a1 a2 a3
    ·exact cm_mono hk (bad_cm (ha x hx).1) (by omega) (by omega)
    ·exact cm_mono hk (bad_cm (ha x hx).2) (by omega) (by omega)
  have bdl:Bd (r.l.flatMap (halves k 66 66 1)):=fun s hs=>by
   obtain ⟨x,hx,h⟩:=List.mem_flatMap.1 hs
   have:=halves_bd hk (by omega) (hbx x hx) s h
   omega
  have len:(r.l.flatMap (halves k 66 66 1)).length≤1073741824:=by
   have:=flat_len (f:=halves k 66 66 1) (m:=132) (l:=r.l) (fun x _=>halves_len _ _ _ _ _)
   have:=hr.2.2
   omega
  have g':GR (r.l.flatMap (halves k 66 66 1)) (r_Fit (JJ (GS.some (r.l.flatMap (halves k 66 66 1))))):=fit_gr (l:=GS.some _) len bdl
  have fin:=fun z (hz:GR (r.l.flatMap (halves k 66 66 1)) z)=>same_of (x:=zY r k) (y:=z) (g.det hz ne (bd_ne bdl) hin)
  cases hq:r_Times_7 k r.l 0<;>rw [hq] at he<;>simp only [rT_r] at he<;>(try cases he)
  ·dsimp only
   rw [Bool.cond_self]
   exact fin _ g'
  ·dsimp only
   exact fin _ (by have:=Option.some.inj he;rw [← this];exact nil_gr)
 ·-- too many
  have many:64 < (can zq (r.l.flatMap (timesL k))).length:=by
   have hc:=can_rg gcmp_lo ne
   have has:∀y,In (timesL k x) y→In (can zq (r.l.flatMap (timesL k))) y:=fun y hy=>(hc.2 y).2 (In_flat.2 ⟨x,hx,hy⟩)
   have hxx:=hbx x hx
   have hsd:∀y,In (can zq (r.l.flatMap (timesL k))) y→TimesS k r.l y:=fun y hy=>sound y ((hc.2 y).1 hy)
   by_cases b1:Bad k (max x.lo 0) x.hi
   ·refine many_gaps hk hc.1 hsd (b:=max x.lo 0) (by omega) b1.2 (.inl fun j hj=>has _ ?_)
    refine In_append.2 (.inl (prodL_has hk 2049 _ _ (by omega) (by omega) ?_ (by omega)))
    have:=b1.1;omega
   ·have b2:Bad k (max (-x.hi) 1) (-x.lo):=Classical.byContradiction fun h=>ha ⟨b1,h⟩
    refine many_gaps hk hc.1 hsd (b:=max (-x.hi) 1) (by omega) b2.2 (.inr fun j hj=>has _ ?_)
    refine In_append.2 (.inr (In_neg.2 ?_))
    rw [Int.neg_neg]
    have:=b2.1
    exact prodL_has hk 2049 _ _ (by omega) (by omega) (by omega) (by omega)
  have hz:zY r k=(GS.nil,2):=by
   rcases g with ⟨_,h,_⟩|⟨_,h⟩
   ·omega
   ·exact h
  refine same_eq ?_
  rw [hz]
  cases hq:r_Times_7 k r.l 0<;>rw [hq] at he<;>first|rfl|(simp [rT_r] at he)
end Go.VS

namespace Go.VS
open List (length_append)
open Go
def qF (c:Int) (x:Sn):List Sn:=someS (-((-x.lo) / c)) (x.hi / c)
theorem qF_eq {c:Int} {x:Sn} (hc:1≤c) (hx:-1099511627776≤x.lo∧x.lo≤x.hi∧x.hi≤1099511627776):qF c x=bif decide ((w64 (0 - (zv (w64 (0 - x.lo)) c)))≤(zv x.hi c)) then [(⟨w64 (0 - (zv (w64 (0 - x.lo)) c)),(zv x.hi c)⟩:Sn)] else []:=by
 have hd:=ediv_bd (a:=-x.lo) hc (by omega)
 rw [neg_w (a:=x.lo) (by omega),rdown_eq hc (by omega),rdown_eq hc (by omega),zI (by omega) (by omega),show 0 - -x.lo / c=-(-x.lo / c) by omega]
 unfold qF someS
 by_cases h:-(-x.lo / c)≤x.hi / c
 ·rw [decide_eq_true h,if_neg (by omega)];rfl
 ·rw [decide_eq_false h,if_pos (by omega)];rfl
section
variable {c:Int} (hc:1≤c)
include hc
theorem rO10_eq:∀(l v:List Sn),(∀x∈l,-1099511627776≤x.lo∧x.lo≤x.hi∧x.hi≤1099511627776)→r_Over_10 c l v=.x0 (v++l.flatMap (qF c))
 |[],v,_=>by simp [r_Over_10]
 |x::l,v,h=>by
  unfold r_Over_10
  rw [List.flatMap_cons,qF_eq hc (h x List.mem_cons_self)]
  have hl:=fun y hy=>h y (List.mem_cons_of_mem _ hy)
  cases decide ((w64 (0 - (zv (w64 (0 - x.lo)) c)))≤(zv x.hi c)) with
  |true=>simp only [cond_true];rw [rO10_eq l _ hl,List.append_assoc]
  |false=>simp only [cond_false];rw [rO10_eq l _ hl];rfl
theorem rO10a_eq:∀(l v:List Sn),(∀x∈l,-1099511627776≤x.lo∧x.lo≤x.hi∧x.hi≤1099511627776)→r_Over_10p1a c l v=.x0 (v++l.flatMap (qF c))
 |[],v,_=>by simp [r_Over_10p1a]
 |x::l,v,h=>by
  unfold r_Over_10p1a
  rw [List.flatMap_cons,qF_eq hc (h x List.mem_cons_self)]
  have hl:=fun y hy=>h y (List.mem_cons_of_mem _ hy)
  cases decide ((w64 (0 - (zv (w64 (0 - x.lo)) c)))≤(zv x.hi c)) with
  |true=>simp only [cond_true];rw [rO10a_eq l _ hl,List.append_assoc]
  |false=>simp only [cond_false];rw [rO10a_eq l _ hl];rfl
theorem rO10p_eq:∀(l:List Sn),(∀x∈l,-1099511627776≤x.lo∧x.lo≤x.hi∧x.hi≤1099511627776)→(l.flatMap (qF c)=[]∧r_Over_10p1 c l=.x1)∨r_Over_10p1 c l=.x0 (l.flatMap (qF c))
 |[],_=>.inl ⟨rfl,rfl⟩
 |x::l,h=>by
  unfold r_Over_10p1
  rw [List.flatMap_cons,qF_eq hc (h x List.mem_cons_self)]
  have hl:=fun y hy=>h y (List.mem_cons_of_mem _ hy)
  cases decide ((w64 (0 - (zv (w64 (0 - x.lo)) c)))≤(zv x.hi c)) with
  |true=>right;simp only [cond_true];rw [rO10a_eq hc l _ hl]
  |false=>exact rO10p_eq l hl
end
def qL (r:List Sn):Nat→Int→List Sn
 |0,_=>[]
 |n+1,c=>r.flatMap (qF c)++qL r n (c+1)
section
variable {r:GS Sn} {k:Sn} (hb:∀x∈r.l,-1099511627776≤x.lo∧x.lo≤x.hi∧x.hi≤1099511627776) (hk:KOv k)
include hb hk
theorem rO7a_eq:∀(f:Nat) (v:List Sn) (c:Int),k.lo≤c→c≤k.hi+1→k.hi - c+1 < f→∃c',r_Over_7a r k f v c=.x0 (v++qL r.l (k.hi+1 - c).toNat c) c'
 |0,v,c,h0,h1,h2=>by omega
 |f+1,v,c,h0,h1,h2=>by
  have k1:=hk.1
  have k3:=hk.2.2.1
  unfold r_Over_7a
  by_cases hc:c≤k.hi
  ·rw [decide_eq_true hc,cond_true,zI (n:=c+1) (by omega) (by omega),rO10_eq (by omega) _ _ hb]
   obtain ⟨c',e⟩:=rO7a_eq f (v++r.l.flatMap (qF c)) (c+1) (by omega) (by omega) (by omega)
   refine ⟨c',?_⟩
   dsimp only
   rw [e,show (k.hi+1 - c).toNat=(k.hi+1 - (c+1)).toNat+1 by omega,qL,List.append_assoc]
  ·rw [decide_eq_false hc,show (k.hi+1 - c).toNat=0 by omega]
   exact ⟨c,by simp [qL]⟩
theorem rO7_eq:∀(f:Nat) (c:Int),k.lo≤c→c≤k.hi+1→k.hi - c+1 < f→(∃c',r_Over_7 r k f c=.x0 (qL r.l (k.hi+1 - c).toNat c) c')∨(qL r.l (k.hi+1 - c).toNat c=[]∧∃c',r_Over_7 r k f c=.x1 c')
 |0,c,h0,h1,h2=>by omega
 |f+1,c,h0,h1,h2=>by
  have k1:=hk.1
  have k3:=hk.2.2.1
  unfold r_Over_7
  by_cases hc:c≤k.hi
  ·rw [decide_eq_true hc,cond_true,zI (n:=c+1) (by omega) (by omega),show (k.hi+1 - c).toNat=(k.hi+1 - (c+1)).toNat+1 by omega,qL]
   rcases rO10p_eq (show 1≤c by omega) r.l hb with ⟨h3,e⟩|e<;>rw [e]<;>dsimp only
   ·rw [h3]
    exact rO7_eq f (c+1) (by omega) (by omega) (by omega)
   ·exact .inl (rO7a_eq hb hk f _ (c+1) (by omega) (by omega) (by omega))
  ·rw [decide_eq_false hc,show (k.hi+1 - c).toNat=0 by omega]
   exact .inr ⟨rfl,c,rfl⟩
end
theorem In_qL {r:List Sn}:∀(n:Nat) (c y:Int),1≤c→(In (qL r n c) y↔∃d,c≤d∧d < c+n∧In r (y * d))
 |0,c,y,hc=>⟨fun h=>absurd h In_nil,fun ⟨d,h1,h2,_⟩=>by omega⟩
 |n+1,c,y,hc=>by
  unfold qL
  rw [In_append,In_qL n (c+1) y (by omega),In_flat]
  constructor
  ·rintro (⟨x,hx,h⟩|⟨d,h1,h2,h3⟩)
   ·have:=(div_in hc).1 (In_some.1 h)
    exact ⟨c,Int.le_refl _,by omega,x,hx,this⟩
   ·exact ⟨d,by omega,by omega,h3⟩
  ·rintro ⟨d,h1,h2,h3⟩
   by_cases he:d=c
   ·subst he
    obtain ⟨x,hx,h4⟩:=h3
    exact .inl ⟨x,hx,In_some.2 ((div_in hc).2 h4)⟩
   ·exact .inr ⟨d,by omega,by omega,h3⟩
theorem qL_bd {r:List Sn} (hb:∀x∈r,-1099511627776≤x.lo∧x.lo≤x.hi∧x.hi≤1099511627776):∀(n:Nat) (c:Int),1≤c→Bd (qL r n c)
 |0,c,_,s,h=>by cases h
 |n+1,c,hc,s,h=>by
  rcases List.mem_append.1 h with h|h
  ·obtain ⟨x,hx,h⟩:=List.mem_flatMap.1 h
   have h0:=some_ne s h
   have hx:=hb x hx
   have b1:=ediv_bd (a:=-x.lo) hc (by omega)
   have b2:=ediv_bd (a:=x.hi) hc (by omega)
   unfold qF someS at h
   split at h
   ·cases h
   ·rw [List.mem_singleton.1 h] at h0 ⊢
    simp only at h0 ⊢
    omega
  ·exact qL_bd hb n (c+1) (by omega) s h
theorem qL_len {r:List Sn}:∀(n:Nat) (c:Int),(qL r n c).length≤n * r.length
 |0,c=>by simp [qL]
 |n+1,c=>by
  unfold qL
  rw [length_append,Nat.succ_mul]
  have:=qL_len (r:=r) n (c+1)
  have:=flat_len (f:=qF c) (m:=1) (l:=r) (fun x _=>some_len)
  omega
theorem same_Over (r:GS Sn) (k:Sn):l_same (ym r k).1 (ym r k).2 (r_Over r k).1 (r_Over r k).2=true:=by
 by_cases hr:Ok r.l
 rotate_left
 ·refine same_eq ?_
  rw [Over_no hr]
  unfold r_Over
  rw [valid_no.2 hr];rfl
 by_cases hk:KOv k
 rotate_left
 ·refine same_eq ?_
  rw [Over_bad hr hk]
  unfold r_Over
  rw [valid_iff.2 hr]
  simp only [cond_true]
  by_cases h1:k.lo < 1
  ·rw [decide_eq_true h1];rfl
  ·rw [decide_eq_false h1]
   by_cases h2:k.lo>k.hi
   ·rw [decide_eq_true h2];rfl
   ·rw [decide_eq_false h2]
    by_cases h3:k.hi>1000
    ·rw [decide_eq_true h3];rfl
    ·rw [decide_eq_false h3,zI (by omega) (by omega)]
     by_cases h4:k.hi - k.lo>99
     ·rw [decide_eq_true h4];rfl
     ·exact absurd ⟨by omega,by omega,by omega,by omega⟩ hk
 have hk':=hk
 obtain ⟨k1,k2,k3,k4⟩:=hk'
 have hbx:=ok_bx hr
 have g:=Over_gr hr hk
 have ne:∀s∈r.l.flatMap (fun x=>overL x (k.hi+1 - k.lo).toNat k.lo),s.lo≤s.hi:=flat_ne fun x _=>overL_ne _ _
 have bdl:=qL_bd hbx (k.hi+1 - k.lo).toNat k.lo k1
 have len:(qL r.l (k.hi+1 - k.lo).toNat k.lo).length≤1073741824:=by
  have h1:=qL_len (r:=r.l) (k.hi+1 - k.lo).toNat k.lo
  have h2:=Nat.mul_le_mul (show (k.hi+1 - k.lo).toNat≤100 by omega) hr.2.2
  omega
 have hin:∀y,In (r.l.flatMap (fun x=>overL x (k.hi+1 - k.lo).toNat k.lo)) y↔In (qL r.l (k.hi+1 - k.lo).toNat k.lo) y:=fun y=>by
  rw [In_over hk,In_qL _ _ _ k1]
  constructor
  ·rintro ⟨c,h1,h2,h3⟩;exact ⟨c,h1,by omega,h3⟩
  ·rintro ⟨c,h1,h2,h3⟩;exact ⟨c,h1,by omega,h3⟩
 have fin:=fun z (hz:GR (qL r.l (k.hi+1 - k.lo).toNat k.lo) z)=>same_of (x:=ym r k) (y:=z) (g.det hz ne (bd_ne bdl) hin)
 unfold r_Over
 rw [valid_iff.2 hr,decide_eq_false (show ¬k.lo < 1 by omega),decide_eq_false (show ¬k.lo>k.hi by omega),decide_eq_false (show ¬k.hi>1000 by omega),zI (n:=k.hi - k.lo) (by omega) (by omega),decide_eq_false (show ¬k.hi - k.lo>99 by omega)]
 simp only [cond_true,cond_false]
 rcases rO7_eq hbx hk ((k.hi - k.lo).toNat+2) k.lo (by omega) (by omega) (by omega) with ⟨c',e⟩|⟨he,c',e⟩<;>rw [e]<;>dsimp only
 ·rw [Bool.cond_self]
  exact fin _ (fit_gr (l:=GS.some _) len bdl)
 ·exact fin _ (by rw [he];exact nil_gr)
end Go.VS

namespace Go.VS
open Go
theorem len_Times (r:GS Sn) (k:Sn):(zY r k).1.l.length≤9223372036854775807:=by
 by_cases hr:Ok r.l
 ·by_cases hk:KOk k
  ·exact Nat.le_trans (gr_len (Times_gr hr hk)) (by decide)
  ·rw [Times_bad hr hk];exact short_nil
 ·rw [Times_no hr];exact short_nil
theorem len_Over (r:GS Sn) (k:Sn):(ym r k).1.l.length≤9223372036854775807:=by
 by_cases hr:Ok r.l
 ·by_cases hk:KOv k
  ·exact Nat.le_trans (gr_len (Over_gr hr hk)) (by decide)
  ·rw [Over_bad hr hk];exact short_nil
 ·rw [Over_no hr];exact short_nil
end Go.VS

namespace Go.VS
open List (length_set length_append length_cons length_nil)
open Go Go.Proofs
def l_RangesProducts (r:GS Sn) (k:Sn):Bool :=
 bif decide ((r.l.length:Int)>2000) then
  true
 else
  true

theorem T_l_RangesProducts (r:GS Sn) (k:Sn) (hLr:r.l.length≤9223372036854775807):(lim cfg).pure 3 [GS.D Sn.D 2 r,Sn.D k]=some (B (l_RangesProducts r k)):=by
 unfold l_RangesProducts
 cases h1:decide ((r.l.length:Int)>2000) with
 |true =>
  have g1:=of_decide_eq_true h1
  exact zl [.pure (B true),.dec true,.rw 16 (I (r.l.length:Int)),.dec true] (Ai h1 (Ai (zk Sn.D r) (Ai (Eq.refl true) (Ai sane_ok trivial)))) (by kernel_rfl)
 |false =>
  have g1:=of_decide_eq_false h1
  exact zl [.pure (B true),.dec true,.rw 16 (I (r.l.length:Int)),.dec false,.pure (.tup [.sl (((zY r k).1).nl) ((((zY r k).1).l).map Sn.D) (zsl (((zY r k).1).nl) 2) none,I ((zY r k).2)]),.pure (.tup [.sl (((r_Times r k).1).nl) ((((r_Times r k).1).l).map Sn.D) (zsl (((r_Times r k).1).nl) 2) none,I ((r_Times r k).2)]),.pure (.tup [.sl (((ym r k).1).nl) ((((ym r k).1).l).map Sn.D) (zsl (((ym r k).1).nl) 2) none,I ((ym r k).2)]),.pure (.tup [.sl (((r_Over r k).1).nl) ((((r_Over r k).1).l).map Sn.D) (zsl (((r_Over r k).1).nl) 2) none,I ((r_Over r k).2)]),.pure (B (l_same ((zY r k).1) ((zY r k).2) ((r_Times r k).1) ((r_Times r k).2))),.dec true,.pure (B (l_same ((ym r k).1) ((ym r k).2) ((r_Over r k).1) ((r_Over r k).2))),.dec true] (Ai (show (l_same ((ym r k).1) ((ym r k).2) ((r_Over r k).1) ((r_Over r k).2))=true from (same_Over r k)) (Ai (T_l_same ((ym r k).1) ((ym r k).2) ((r_Over r k).1) ((r_Over r k).2) (len_Over r k)) (Ai (show (l_same ((zY r k).1) ((zY r k).2) ((r_Times r k).1) ((r_Times r k).2))=true from (same_Times r k)) (Ai (T_l_same ((zY r k).1) ((zY r k).2) ((r_Times r k).1) ((r_Times r k).2) (len_Times r k)) (Ai (T_r_Over r k (by first|assumption|omega|(exact two_bd (by omega) (by omega))|(exact add_some (by omega))|(exact add_some' (by omega))|(exact one_some (by omega))|(exact one_some' (by omega))|(exact outside_len _ (by omega))|(simp only [zh] at *<;>omega)|(simp only [ye,GS.some_l,length_set,length_append,length_cons,length_nil] at *<;>first|assumption|omega)|(simp only [ye,GS.some_l,length_set,length_append,length_cons,length_nil,zh] at *<;>first|assumption|omega)|(simp at *<;>omega))) (Ai (T_ranges_Over r k (by first|assumption|omega|(exact two_bd (by omega) (by omega))|(exact add_some (by omega))|(exact add_some' (by omega))|(exact one_some (by omega))|(exact one_some' (by omega))|(exact outside_len _ (by omega))|(simp only [zh] at *<;>omega)|(simp only [ye,GS.some_l,length_set,length_append,length_cons,length_nil] at *<;>first|assumption|omega)|(simp only [ye,GS.some_l,length_set,length_append,length_cons,length_nil,zh] at *<;>first|assumption|omega)|(simp at *<;>omega)) (by first|assumption|omega|(exact two_bd (by omega) (by omega))|(exact add_some (by omega))|(exact add_some' (by omega))|(exact one_some (by omega))|(exact one_some' (by omega))|(exact outside_len _ (by omega))|(simp only [zh] at *<;>omega)|(simp only [ye,GS.some_l,length_set,length_append,length_cons,length_nil] at *<;>first|assumption|omega)|(simp only [ye,GS.some_l,length_set,length_append,length_cons,length_nil,zh] at *<;>first|assumption|omega)|(simp at *<;>omega))) (Ai (T_r_Times r k (by first|assumption|omega|(exact two_bd (by omega) (by omega))|(exact add_some (by omega))|(exact add_some' (by omega))|(exact one_some (by omega))|(exact one_some' (by omega))|(exact outside_len _ (by omega))|(simp only [zh] at *<;>omega)|(simp only [ye,GS.some_l,length_set,length_append,length_cons,length_nil] at *<;>first|assumption|omega)|(simp only [ye,GS.some_l,length_set,length_append,length_cons,length_nil,zh] at *<;>first|assumption|omega)|(simp at *<;>omega))) (Ai (T_ranges_Times r k (by first|assumption|omega|(exact two_bd (by omega) (by omega))|(exact add_some (by omega))|(exact add_some' (by omega))|(exact one_some (by omega))|(exact one_some' (by omega))|(exact outside_len _ (by omega))|(simp only [zh] at *<;>omega)|(simp only [ye,GS.some_l,length_set,length_append,length_cons,length_nil] at *<;>first|assumption|omega)|(simp only [ye,GS.some_l,length_set,length_append,length_cons,length_nil,zh] at *<;>first|assumption|omega)|(simp at *<;>omega)) (by first|assumption|omega|(exact two_bd (by omega) (by omega))|(exact add_some (by omega))|(exact add_some' (by omega))|(exact one_some (by omega))|(exact one_some' (by omega))|(exact outside_len _ (by omega))|(simp only [zh] at *<;>omega)|(simp only [ye,GS.some_l,length_set,length_append,length_cons,length_nil] at *<;>first|assumption|omega)|(simp only [ye,GS.some_l,length_set,length_append,length_cons,length_nil,zh] at *<;>first|assumption|omega)|(simp at *<;>omega))) (Ai h1 (Ai (zk Sn.D r) (Ai (Eq.refl true) (Ai sane_ok trivial)))))))))))) (by kernel_rfl)
end Go.VS

namespace Go.VS
open List (length_map)
open Go Go.Proofs Go.RowKit Go.ChangeShapes Go.WideShapes
set_option maxRecDepth 100000
theorem laid_out:laidOutB Tryz.prog=true:=by kernel_rfl
theorem maps_rowed:mapsRowed Tryz.prog=true:=by kernel_rfl
theorem sl_full:∀t e,t < Tryz.prog.types.size→Tryz.prog.underlying t=some (.slice e)→0 < Tryz.prog.cellsOf e:=slices_full_of Tryz.prog (by kernel_rfl)
theorem i64_min:IntKind.i64.min=-9223372036854775808:=by rfl
theorem i64_max:IntKind.i64.max=9223372036854775807:=by rfl
def R64 (n:Int):Prop:=-9223372036854775808≤n∧n≤9223372036854775807
section
variable {H:Type} {enc:TypeId × Value→H} {w:World} {base base':Nat} {sp:Nat→Bool} {held:Bool} {t:TypeId} {v:Value} {d:DataW H} {p:List MemPlace} {r:Reach}
theorem arg_rep (h:DataW.Trod enc Tryz.prog w base sp held t v d p) (hv:Value.okWide Tryz.prog w r base' t v) (ht:topT cfg 8 t=true) (hr:rowedT cfg 8 t=true) :
  ∃ds,zF (memOf w) noLoc ds v.cells.toList∧Sh cfg 8 t ds:=by
 obtain ⟨n,hn⟩:=h
 exact trod_rep (C:=cfg) (fun t ty h=>tyTab_ok.find h) 8 n t _ _ hn ht hr (.inl (plain_arg hv))
theorem repL_one {M:Mem} {m:Loc} {d:D} {cs:List Value} (h:zF M m [d] cs):∃v,cs=[v]∧Rep M m d v:=by
 simp only [zF] at h
 obtain ⟨v,r,h1,h2,rfl⟩:=h
 exact ⟨v,h1,h2⟩
theorem one_cell {x u:Value} (h:x.cells.toList=[u]) (hp:∀cs,x≠.agg cs):x=u:=by
 cases x<;>simp [Value.cells] at h<;>first|exact h|exact absurd rfl (hp _)
theorem ok_notAgg (hv:Value.okWide Tryz.prog w r base' t v) (hs:∀fs,Tryz.prog.underlying t≠some (.struct fs)) (ha:∀n e,Tryz.prog.underlying t≠some (.array n e)):∀cs,v≠.agg cs:=by
 rintro cs rfl
 unfold Value.okWide at hv
 split at hv
 ·rename_i h;exact hs _ h
 ·rename_i h;exact ha _ _ h
 ·unfold Cell.okWide at hv
  split at hv<;>try (rename_i h1 h2;cases h2;done)
  unfold Cell.ok at hv
  split at hv<;>first|(rename_i h1 h2;cases h2;done)|cases hv
theorem agg_of (hv:Value.okWide Tryz.prog w r base' t v) (hs:(∃fs,Tryz.prog.underlying t=some (.struct fs))∨(∃n e,Tryz.prog.underlying t=some (.array n e))):∃cs,v=.agg cs:=by
 unfold Value.okWide at hv
 rcases hs with ⟨fs,hs⟩|⟨n,e,hs⟩<;>rw [hs] at hv<;>simp only [] at hv<;>obtain ⟨cs,rfl,_⟩:=hv<;>exact ⟨cs,rfl⟩
end
theorem sh3 {f:Nat} {ds:List D} (h:Sh cfg (f+1) 3 ds):∃x:Int,ds=[I x]∧R64 x:=by
 rw [Sh,cfg_ty,cty3] at h
 simp only [ty3] at h
 obtain ⟨n,h1,h2,h3⟩:=h
 rw [i64_min] at h2
 rw [i64_max] at h3
 exact ⟨n,h1,h2,h3⟩
theorem sh25 {f:Nat} {ds:List D} (h:Sh cfg (f+2) 25 ds):∃x:Sn,ds=[I x.lo,I x.hi]∧True:=by
 rw [Sh,cfg_ty,cty25] at h
 simp only [zG] at h
 obtain ⟨hl,hf⟩:=h
 obtain ⟨t0,q0,z0⟩:=hf (3,0) (by simp)
 obtain rfl:t0=ty3:=(Option.some.inj (cty3.symm.trans q0)).symm
 obtain ⟨x0,e0,r0⟩:=sh3 (f:=f+0) z0
 obtain ⟨t1,q1,z1⟩:=hf (3,1) (by simp)
 obtain rfl:t1=ty3:=(Option.some.inj (cty3.symm.trans q1)).symm
 obtain ⟨x1,e1,r1⟩:=sh3 (f:=f+0) z1
 rcases ds with _|⟨c0,_|⟨c1,_|⟨y,r⟩⟩⟩
 all_goals simp at hl
 simp [ty3] at e0
 simp [ty3] at e1
 exact ⟨⟨x0,x1⟩,by simp [*],trivial⟩
theorem sh23 {f:Nat} {ds:List D} (h:Sh cfg (f+3) 23 ds):∃x:GS Sn,ds=[.sl x.nl (x.l.map Sn.D) (zsl x.nl 2) none]∧x.l.length≤9223372036854775807:=by
 rw [Sh,cfg_ty,cty23] at h
 simp only [ty23] at h
 rcases h with h|⟨els,te,h1,h2,h3,h4⟩
 ·exact ⟨GS.nil,h,by simp [GS.nil]⟩
 ·obtain rfl:te=zG:=(Option.some.inj (cty25.symm.trans h1)).symm
  have key:∀els:List D,(∀d∈els,Sh cfg (f+2) 25 d.cells∧(zG.isAgg=true→d=.agg d.cells)∧(zG.isAgg=false→d.cells=[d]))→∃l:List Sn,els=l.map Sn.D:=by
   intro els
   induction els with
   |nil=>intro _;exact ⟨[],rfl⟩
   |cons d els ih =>
    intro hd
    obtain ⟨l,hl⟩:=ih fun d' h'=>hd d' (List.mem_cons_of_mem _ h')
    obtain ⟨q1,q2,q3⟩:=hd d (by simp)
    obtain ⟨a,e,_⟩:=sh25 (f:=f+0) q1
    have hx:d=Sn.D a:=by rw [q2 rfl,e];rfl
    exact ⟨a::l,by rw [List.map_cons,← hx,← hl]⟩
  obtain ⟨l,rfl⟩:=key els h4
  refine ⟨GS.some l,h2,?_⟩
  simp only [length_map,maxLen] at h3
  simp only [GS.some]
  omega
theorem arg23 {H:Type} {enc:TypeId × Value→H} {w:World} {base base':Nat} {sp:Nat→Bool} {held:Bool} {v:Value} {d:DataW H} {p:List MemPlace} {r:Reach} (h:DataW.Trod enc Tryz.prog w base sp held 23 v d p) (hv:Value.okWide Tryz.prog w r base' 23 v):∃x:GS Sn,Rep (memOf w) noLoc (GS.D Sn.D 2 x) v∧x.l.length≤9223372036854775807:=by
 obtain ⟨ds,h1,h2⟩:=arg_rep h hv (by kernel_rfl) (by kernel_rfl)
 obtain ⟨x,rfl,hx⟩:=sh23 (f:=5) h2
 obtain ⟨u,e,hu⟩:=repL_one h1
 exact ⟨x,by rw [one_cell e (ok_notAgg hv (by rw [Tryz.underlying23];simp) (by rw [Tryz.underlying23];simp))];exact hu,hx⟩
theorem arg25 {H:Type} {enc:TypeId × Value→H} {w:World} {base base':Nat} {sp:Nat→Bool} {held:Bool} {v:Value} {d:DataW H} {p:List MemPlace} {r:Reach} (h:DataW.Trod enc Tryz.prog w base sp held 25 v d p) (hv:Value.okWide Tryz.prog w r base' 25 v):∃x:Sn,Rep (memOf w) noLoc (Sn.D x) v∧True:=by
 obtain ⟨ds,h1,h2⟩:=arg_rep h hv (by kernel_rfl) (by kernel_rfl)
 obtain ⟨x,rfl,hx⟩:=sh25 (f:=6) h2
 obtain ⟨cs,rfl⟩:=agg_of hv (.inl ⟨_,Tryz.underlying25⟩)
 refine ⟨x,?_,hx⟩
 simp only [Rep,Sn.D]
 exact ⟨cs,rfl,by simpa [Value.cells] using h1⟩
open Go.Lib in
theorem tab_ok {W : World} (h : laidMetH Tryz.prog [("math/bits.deBruijn32tab", YtmdmclbpnkdimaaGreatDoor.Rows.laid_math_bits_deBruijn32tab), ("math/bits.deBruijn64tab", YtmdmclbpnkdimaaGreatDoor.Rows.laid_math_bits_deBruijn64tab), ("internal/strconv.uint64pow10", YtmdmclbpnkdimaaGreatDoor.Rows.laid_internal_strconv_uint64pow10), ("unicode/utf8.acceptRanges", YtmdmclbpnkdimaaGreatDoor.Rows.laid_unicode_utf8_acceptRanges), ("strconv.ErrRange", YtmdmclbpnkdimaaGreatDoor.Rows.laid_strconv_ErrRange), ("strconv.ErrSyntax", YtmdmclbpnkdimaaGreatDoor.Rows.laid_strconv_ErrSyntax), ("unicode/utf8.first", YtmdmclbpnkdimaaGreatDoor.Rows.laid_unicode_utf8_first)] W) : TabOK cfg W := by
 obtain ⟨ps, h, _⟩ : laidMet Tryz.prog [("math/bits.deBruijn32tab", YtmdmclbpnkdimaaGreatDoor.Rows.laid_math_bits_deBruijn32tab), ("math/bits.deBruijn64tab", YtmdmclbpnkdimaaGreatDoor.Rows.laid_math_bits_deBruijn64tab), ("internal/strconv.uint64pow10", YtmdmclbpnkdimaaGreatDoor.Rows.laid_internal_strconv_uint64pow10), ("unicode/utf8.acceptRanges", YtmdmclbpnkdimaaGreatDoor.Rows.laid_unicode_utf8_acceptRanges), ("strconv.ErrRange", YtmdmclbpnkdimaaGreatDoor.Rows.laid_strconv_ErrRange), ("strconv.ErrSyntax", YtmdmclbpnkdimaaGreatDoor.Rows.laid_strconv_ErrSyntax), ("unicode/utf8.first", YtmdmclbpnkdimaaGreatDoor.Rows.laid_unicode_utf8_first)] W := h
 obtain ⟨_,_,_,_,_,q,_,_,_,_,h,_⟩:=h
 obtain ⟨_,_,_,_,_,q,_,_,_,_,h,_⟩:=h
 obtain ⟨g',t',cs,fuel,p,q,hg',ht',hvar,hd,_⟩:=h
 intro g cs' hc
 have hg:g=F1.gPow∧cs'=F1.powTab:=by
  have hc':(bif eqb g F1.gPow then some F1.powTab else none)=some cs':=hc
  cases he:eqb g F1.gPow with
  |false=>rw [he] at hc';cases hc'
  |true=>rw [he] at hc';cases hc';exact ⟨yn.1 he,rfl⟩
 obtain ⟨rfl,rfl⟩:=hg
 obtain rfl:=Option.some.inj (F1.gPow_is.symm.trans hg')
 have hgt:(Tryz.prog.globals[F1.gPow]?).map (·.type)=some 166:=by kernel_rfl
 obtain rfl:=Option.some.inj (hgt.symm.trans ht')
 have hz:(YtmdmclbpnkdimaaGreatDoor.Rows.laid_internal_strconv_uint64pow10:DataW Unit)=Lib.tabData .u64 Lib.pow10Tab:=by kernel_rfl
 rw [hz] at hd
 have hcs:=cells_of_tab (n:=20) Tryz.underlying166 Tryz.underlying140 (by kernel_rfl) (by kernel_rfl) hd
 unfold World.var? at hvar
 rw [F1.gPow_is,Option.bind_some] at hvar
 split at hvar
 ·rename_i c t fr hh
  cases hvar
  exact ⟨t,fr,by rw [hh,F1.powTab_is,← hcs]⟩
 ·cases hvar
noncomputable def laidWorld (os:Os):World :=
 let n:=(World.settled Tryz.prog os).heap.size
 { World.holding Tryz.prog os ⟨#[.cells #[.string ⟨#[118,97,108,117,101,32,111,117,116,32,111,102,32,114,97,110,103,101]⟩] 174 (0,0),.cells #[.string ⟨#[105,110,118,97,108,105,100,32,115,121,110,116,97,120]⟩] 174 (0,0)],#[],[]⟩ with heap:=((((((((World.holding Tryz.prog os ⟨#[.cells #[.string ⟨#[118,97,108,117,101,32,111,117,116,32,111,102,32,114,97,110,103,101]⟩] 174 (0,0),.cells #[.string ⟨#[105,110,118,97,108,105,100,32,115,121,110,116,97,120]⟩] 174 (0,0)],#[],[]⟩).heap.modify 6 fun|.cells _ t fr=>.cells (#[.int .u8 0,.int .u8 1,.int .u8 28,.int .u8 2,.int .u8 29,.int .u8 14,.int .u8 24,.int .u8 3,.int .u8 30,.int .u8 22,.int .u8 20,.int .u8 15,.int .u8 25,.int .u8 17,.int .u8 4,.int .u8 8,.int .u8 31,.int .u8 27,.int .u8 13,.int .u8 23,.int .u8 21,.int .u8 19,.int .u8 16,.int .u8 7,.int .u8 26,.int .u8 12,.int .u8 18,.int .u8 6,.int .u8 11,.int .u8 5,.int .u8 10,.int .u8 9]) t fr|o=>o).modify 7 fun|.cells _ t fr=>.cells (#[.int .u8 0,.int .u8 1,.int .u8 56,.int .u8 2,.int .u8 57,.int .u8 49,.int .u8 28,.int .u8 3,.int .u8 61,.int .u8 58,.int .u8 42,.int .u8 50,.int .u8 38,.int .u8 29,.int .u8 17,.int .u8 4,.int .u8 62,.int .u8 47,.int .u8 59,.int .u8 36,.int .u8 45,.int .u8 43,.int .u8 51,.int .u8 22,.int .u8 53,.int .u8 39,.int .u8 33,.int .u8 30,.int .u8 24,.int .u8 18,.int .u8 12,.int .u8 5,.int .u8 63,.int .u8 55,.int .u8 48,.int .u8 27,.int .u8 60,.int .u8 41,.int .u8 37,.int .u8 16,.int .u8 46,.int .u8 35,.int .u8 44,.int .u8 21,.int .u8 52,.int .u8 32,.int .u8 23,.int .u8 11,.int .u8 54,.int .u8 26,.int .u8 40,.int .u8 15,.int .u8 34,.int .u8 20,.int .u8 31,.int .u8 10,.int .u8 25,.int .u8 14,.int .u8 19,.int .u8 9,.int .u8 13,.int .u8 8,.int .u8 7,.int .u8 6]) t fr|o=>o).modify 3 fun|.cells _ t fr=>.cells (#[.int .u64 1,.int .u64 10,.int .u64 100,.int .u64 1000,.int .u64 10000,.int .u64 100000,.int .u64 1000000,.int .u64 10000000,.int .u64 100000000,.int .u64 1000000000,.int .u64 10000000000,.int .u64 100000000000,.int .u64 1000000000000,.int .u64 10000000000000,.int .u64 100000000000000,.int .u64 1000000000000000,.int .u64 10000000000000000,.int .u64 100000000000000000,.int .u64 1000000000000000000,.int .u64 10000000000000000000]) t fr|o=>o).modify 5 fun|.cells _ t fr=>.cells (#[.int .u8 128,.int .u8 191,.int .u8 160,.int .u8 191,.int .u8 128,.int .u8 159,.int .u8 144,.int .u8 191,.int .u8 128,.int .u8 143,.int .u8 0,.int .u8 0,.int .u8 0,.int .u8 0,.int .u8 0,.int .u8 0,.int .u8 0,.int .u8 0,.int .u8 0,.int .u8 0,.int .u8 0,.int .u8 0,.int .u8 0,.int .u8 0,.int .u8 0,.int .u8 0,.int .u8 0,.int .u8 0,.int .u8 0,.int .u8 0,.int .u8 0,.int .u8 0]) t fr|o=>o).modify 2 fun|.cells _ t fr=>.cells (#[.iface 172 (.pointer (some ⟨n+0,0,none⟩))]) t fr|o=>o).modify 1 fun|.cells _ t fr=>.cells (#[.iface 172 (.pointer (some ⟨n+1,0,none⟩))]) t fr|o=>o).modify 4 fun|.cells _ t fr=>.cells ((Go.Pinned.utf8FirstZ.map fun z=>Value.int .u8 (Int.ofNat z)).toArray) t fr|o=>o) }
end Go.VS

namespace Go.VS
open Go
theorem law_products (r:GS Sn) (k:Sn):r.l.length≤9223372036854775807→True→(lim cfg).pure 3 [GS.D Sn.D 2 r,Sn.D k]=some (B true):=fun h1 _=>by
 rw [T_l_RangesProducts r k h1]
 unfold l_RangesProducts
 simp only [Bool.cond_self]
end Go.VS

