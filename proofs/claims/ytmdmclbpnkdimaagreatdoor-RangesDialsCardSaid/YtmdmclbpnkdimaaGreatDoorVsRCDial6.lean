/- Nothing of a statement is proved in this text alone: it is part 6 of the proof's own tools, an evaluator of the code over deep values, its soundness, and what it makes of this seat's functions. Conditions: none beyond the statement's own. -/
import Derived.Test.YtmdmclbpnkdimaaGreatDoorVsRCDial5
import Derived.Test.YtmdmclbpnkdimaaGreatDoorRows
import Derived.Test.YtmdmclbpnkdimaaGreatDoorTie
import Derived.WalkKit
import Derived.ProofKit
import Derived.Deep.DeepHandedRow
import Derived.Lib.LaidTab
set_option linter.unusedSimpArgs false
set_option linter.unusedVariables false
namespace Go.VS
open Go
set_option maxHeartbeats 0
def rs5 (k:Int) (s:Sn):List Sn:=(z7 s k).l
theorem ranges_each_3p5c_eq (k:Int):∀ (l v:List Sn),zJ k l v=.x0 (v++l.flatMap (rs5 k))
 | [],v=>by simp [zJ]
 | y::l,v=>by
  unfold zJ
  rw [emp_app (fun z=>zJ k l z),ranges_each_3p5c_eq k l _,List.flatMap_cons,List.append_assoc,Bool.cond_self]; rfl
theorem ranges_each_3p5a_eq (k:Int):∀ (l v:List Sn),ye k l v=.x0 (v++l.flatMap (rs5 k)) ∨ ye k l v=.x1 (v++l.flatMap (rs5 k))
 | [],v=>by right; simp [ye]
 | y::l,v=>by
  unfold ye
  rw [emp_app (fun z=>ye k l z),emp_app (fun z=>zJ k l z),ranges_each_3p5c_eq k l _,List.flatMap_cons,← List.append_assoc]
  cases (z7 y k).nl with
  | false=>exact .inl rfl
  | true=>exact ranges_each_3p5a_eq k l _
theorem ranges_each_3p5b_eq (k:Int):∀ (l:List Sn),(l.flatMap (rs5 k)=[]∧ranges_each_3p5b k l=.x2) ∨ (l.flatMap (rs5 k) ≠ []∧ranges_each_3p5b k l=.x0 (l.flatMap (rs5 k)))
 | []=>.inl ⟨rfl,rfl⟩
 | y::l=>by
  unfold ranges_each_3p5b
  rw [Bool.cond_self]
  cases h:((z7 y k).l).isEmpty with
  | true =>
   rw [flat_cons_emp (f:=rs5 k) h]
   exact ranges_each_3p5b_eq k l
  | false =>
   right
   simp only [cond_false]
   rw [ranges_each_3p5c_eq,List.flatMap_cons]
   refine ⟨fun z=>?_,rfl⟩
   have h2:(z7 y k).l=[]:=(List.append_eq_nil_iff.1 z).1
   rw [h2] at h; cases h
theorem ranges_each_3p5_eq (k:Int):∀ (l:List Sn),(l.flatMap (rs5 k)=[]∧(ranges_each_3p5 k l=.x2 ∨ ranges_each_3p5 k l=.x3)) ∨ (l.flatMap (rs5 k) ≠ []∧(ranges_each_3p5 k l=.x0 (l.flatMap (rs5 k)) ∨ ranges_each_3p5 k l=.x1 (l.flatMap (rs5 k))))
 | []=>.inl ⟨rfl,.inr rfl⟩
 | y::l=>by
  unfold ranges_each_3p5
  cases h:((z7 y k).l).isEmpty with
  | true =>
   rw [flat_cons_emp (f:=rs5 k) h]
   cases (z7 y k).nl with
   | true=>exact ranges_each_3p5_eq k l
   | false =>
    rcases ranges_each_3p5b_eq k l with ⟨h1,h2⟩ | ⟨h1,h2⟩
    ·exact .inl ⟨h1,.inl h2⟩
    ·exact .inr ⟨h1,.inl h2⟩
  | false =>
   right
   refine ⟨fun z=>?_,?_⟩
   ·rw [List.flatMap_cons] at z
    have h2:(z7 y k).l=[]:=(List.append_eq_nil_iff.1 z).1
    rw [h2] at h; cases h
   ·rw [List.flatMap_cons]
    cases (z7 y k).nl with
    | true=>exact ranges_each_3p5a_eq k l _
    | false=>exact .inl (ranges_each_3p5c_eq k l _)

theorem getD_set {v:List Bool} {i j:Nat} (hi:i < v.length):(v.set i true).getD j false=(v.getD j false || decide (i=j)):=by
 rw [List.getD_eq_getElem?_getD,List.getD_eq_getElem?_getD,List.getElem?_set]
 by_cases h:i=j
 ·subst h
  rw [if_pos rfl,if_pos hi]; simp
 ·rw [if_neg h]; simp [h]
theorem full6_eq {x:Sn} {n:Int} (h0:0≤x.lo) (h1:x.hi < n) (hn:NOk n):∀ (f:Nat) (i:Int) (v:List Bool),x.lo≤i→i≤x.hi+1→x.hi - i+1 < f→v.length=n.toNat→∃ i' v',ranges_full_6 x f i v=.x0 i' v'∧v'.length=n.toNat∧∀ j:Nat,v'.getD j false=(v.getD j false || (decide (i≤(j:Int)) && decide ((j:Int)≤x.hi)))
 | 0,i,v,h2,h3,h4,h5=>by omega
 | f+1,i,v,h2,h3,h4,h5=>by
  have n2:=hn.2
  unfold ranges_full_6
  by_cases hc:i≤x.hi
  ·rw [decide_eq_true hc,cond_true,y7 (n:=i+1) (by omega) (by omega)]
   obtain ⟨i',v',e,hl,hv⟩:=full6_eq h0 h1 hn f (i+1) (v.set i.toNat true) (by omega) (by omega) (by omega) (by rw [List.length_set]; exact h5)
   refine ⟨i',v',e,hl,fun j=>?_⟩
   rw [hv j,getD_set (by omega),Bool.or_assoc]
   congr 1
   rw [Bool.eq_iff_iff]
   simp only [Bool.or_eq_true,Bool.and_eq_true,decide_eq_true_eq]
   omega
  ·rw [decide_eq_false hc]
   refine ⟨i,v,rfl,h5,fun j=>?_⟩
   have:(decide (i≤(j:Int)) && decide ((j:Int)≤x.hi))=false:=by
    rw [Bool.eq_false_iff]
    simp only [ne_eq,Bool.and_eq_true,decide_eq_true_eq]
    omega
   rw [this,Bool.or_false]
theorem full3_eq {n:Int} (hn:NOk n):∀ (l:List Sn) (v:List Bool),(∀ s∈l,0≤s.lo∧s.lo≤s.hi∧s.hi < n)→v.length=n.toNat→∃ v',ranges_full_3 l v=.x0 v'∧v'.length=n.toNat∧∀ j:Nat,v'.getD j false=true↔(v.getD j false=true ∨ In l (j:Int))
 | [],v,_,hv=>⟨v,rfl,hv,fun j=>⟨fun h=>.inl h,fun h=>h.elim id fun h=>absurd h In_nil⟩⟩
 | x::l,v,hb,hv=>by
  have hx:=hb x List.mem_cons_self
  unfold ranges_full_3
  obtain ⟨i',v',e,hl,h⟩:=full6_eq hx.1 hx.2.2 hn ((x.hi - x.lo).toNat+2) x.lo v (Int.le_refl _) (by omega) (by omega) hv
  rw [e]
  dsimp only
  obtain ⟨w,e2,hl2,h2⟩:=full3_eq hn l v' (fun s hs=>hb s (List.mem_cons_of_mem _ hs)) hl
  refine ⟨w,e2,hl2,fun j=>?_⟩
  rw [h2 j,h j,In_cons]
  simp only [Bool.or_eq_true,Bool.and_eq_true,decide_eq_true_eq]
  rw [or_assoc]
theorem full11_eq (v:List Bool):∀ (m i:Nat),(∃ j,ranges_full_11 v m i=.x0 j∧∀ k,i≤k→k < i+m→v.getD k default=true) ∨ (∃ j,ranges_full_11 v m i=.x1 j∧∃ k,i≤k∧k < i+m∧v.getD k default=false)
 | 0,i=>.inl ⟨i,rfl,fun k h1 h2=>by omega⟩
 | m+1,i=>by
  unfold ranges_full_11
  cases h:v.getD i default with
  | false=>exact .inr ⟨i,rfl,i,Nat.le_refl _,by omega,h⟩
  | true =>
   rcases full11_eq v m (i+1) with ⟨j,e,k⟩ | ⟨j,e,k,h1,h2,h3⟩
   ·refine .inl ⟨j,e,fun k' h1 h2=>?_⟩
    by_cases he:k'=i
    ·rw [he]; exact h
    ·exact k k' (by omega) (by omega)
   ·exact .inr ⟨j,e,k,by omega,by omega,h3⟩
theorem full_iff {l:GS Sn} {n:Int} (hn:NOk n) (hb:∀ s∈l.l,0≤s.lo∧s.lo≤s.hi∧s.hi < n):ranges_full l n=true↔∀ y,0≤y→y < n→In l.l y:=by
 unfold ranges_full
 obtain ⟨v,e,hl,h⟩:=full3_eq hn l.l (List.replicate n.toNat false) hb (by simp)
 have hv:∀ j:Nat,v.getD j false=true↔In l.l (j:Int):=fun j=>by
  rw [h j]
  have:(List.replicate n.toNat false).getD j false=false:=by
   rw [List.getD_eq_getElem?_getD,List.getElem?_replicate]
   split <;> rfl
  rw [this]
  simp
 rw [e]
 dsimp only
 rcases full11_eq v (((n.toNat:Nat):Int) - 0).toNat 0 with ⟨j,e2,k⟩ | ⟨j,e2,k,h1,h2,h3⟩ <;> rw [e2]
 ·refine ⟨fun _ y h1 h2=>?_,fun _=>rfl⟩
  have:=(hv y.toNat).1 (k y.toNat (Nat.zero_le _) (by omega))
  rwa [show ((y.toNat:Nat):Int)=y by omega] at this
 ·constructor
  ·intro h; cases h
  ·intro h
   have:=(hv k).2 (h k (by omega) (by omega))
   have h3':v.getD k false=false:=h3
   rw [h3'] at this
   cases this
def pF (n:Int) (W:Sn) (v:Int) (x:Sn):List Sn:=someS (max W.lo (x.lo+v * n)) (min W.hi (x.hi+v * n))
def WOk (W:Sn):Prop:=-1099511627776≤W.lo∧W.lo≤W.hi∧W.hi≤1099511627776
theorem vn_bd {n v:Int} (hn:NOk n) (hv:-1099511627777≤v∧v≤1099511627777):-10995116277770000≤v * n∧v * n≤10995116277770000:=by
 have n1:=hn.1
 have n2:=hn.2
 have h1:=Int.mul_le_mul_of_nonneg_right hv.2 (show 0≤n by omega)
 have h2:=Int.mul_le_mul_of_nonneg_right hv.1 (show 0≤n by omega)
 omega
section
variable {n:Int} {W:Sn} {v:Int} (hn:NOk n) (hv:-1099511627777≤v∧v≤1099511627777)
include hn hv
theorem pF_eq {x:Sn} (hx:0≤x.lo∧x.lo≤x.hi∧x.hi < n):(zd (zu W.lo (w64 (x.lo+(w64 (v * n))))) (zT W.hi (w64 (x.hi+(w64 (v * n)))))).l=pF n W v x:=by
 have b:=vn_bd hn hv
 have n2:=hn.2
 unfold pF
 rw [some_l,imax_eq,imin_eq,y7 (n:=v * n) (by omega) (by omega),y7 (by omega) (by omega),y7 (by omega) (by omega)]
theorem t19_eq:∀ (l w:List Sn),(∀ s∈l,0≤s.lo∧s.lo≤s.hi∧s.hi < n)→yg n W v l w=.x0 (w++l.flatMap (pF n W v))
 | [],w,_=>by simp [yg]
 | x::l,w,h=>by
  unfold yg
  rw [emp_app (fun z=>yg n W v l z),t19_eq l _ (fun s hs=>h s (List.mem_cons_of_mem _ hs)),List.flatMap_cons,List.append_assoc,pF_eq hn hv (h x List.mem_cons_self)]
theorem t19a_eq:∀ (l w:List Sn),(∀ s∈l,0≤s.lo∧s.lo≤s.hi∧s.hi < n)→ya n W v l w=.x0 (w++l.flatMap (pF n W v))
 | [],w,_=>by simp [ya]
 | x::l,w,h=>by
  unfold ya
  rw [emp_app (fun z=>ya n W v l z),t19a_eq l _ (fun s hs=>h s (List.mem_cons_of_mem _ hs)),List.flatMap_cons,List.append_assoc,pF_eq hn hv (h x List.mem_cons_self)]
theorem t19b_eq:∀ (l:List Sn),(∀ s∈l,0≤s.lo∧s.lo≤s.hi∧s.hi < n)→(l.flatMap (pF n W v)=[]∧yf n W v l=.x1) ∨ yf n W v l=.x0 (l.flatMap (pF n W v))
 | [],_=>.inl ⟨rfl,rfl⟩
 | x::l,h=>by
  have hl:=fun s hs=>h s (List.mem_cons_of_mem _ hs)
  unfold yf
  rw [pF_eq hn hv (h x List.mem_cons_self),List.flatMap_cons]
  cases hp:(pF n W v x).isEmpty with
  | true =>
   have hp:pF n W v x=[]:=by simpa using hp
   rw [hp,cond_true]
   exact t19b_eq l hl
  | false =>
   right
   rw [cond_false,t19a_eq hn hv l _ hl]
end
def pL (n:Int) (W:Sn) (one:List Sn):Nat→Int→List Sn
 | 0,_=>[]
 | m+1,v=>one.flatMap (pF n W v)++pL n W one m (v+1)
section
variable {n q:Int} {W:Sn} {one o':List Sn} (hn:NOk n) (hq:q≤1099511627777) (h1:∀ s∈one,0≤s.lo∧s.lo≤s.hi∧s.hi < n)
include hn hq h1
theorem t16a_eq:∀ (f:Nat) (w:List Sn) (v:Int),-1099511627777≤v→v≤q+1→q - v+1 < f→∃ v',ranges_Turns_16a n W o' q f one w v=.x0 one (w++pL n W one (q+1 - v).toNat v) v'
 | 0,w,v,k0,k1,k2=>by omega
 | f+1,w,v,k0,k1,k2=>by
  unfold ranges_Turns_16a
  by_cases hc:v≤q
  ·rw [decide_eq_true hc,cond_true,t19_eq hn ⟨k0,by omega⟩ _ _ h1,y7 (n:=v+1) (by omega) (by omega)]
   obtain ⟨v',e⟩:=t16a_eq f (w++one.flatMap (pF n W v)) (v+1) (by omega) (by omega) (by omega)
   refine ⟨v',?_⟩
   dsimp only
   rw [e,show (q+1 - v).toNat=(q+1 - (v+1)).toNat+1 by omega,pL,List.append_assoc]
  ·rw [decide_eq_false hc,show (q+1 - v).toNat=0 by omega]
   exact ⟨v,by simp [pL]⟩
theorem t16_eq:∀ (f:Nat) (v:Int),-1099511627777≤v→v≤q+1→q - v+1 < f→(∃ v',zP n W one q f v=.x0 one (pL n W one (q+1 - v).toNat v) v') ∨ (pL n W one (q+1 - v).toNat v=[]∧∃ v',zP n W one q f v=.x1 v')
 | 0,v,k0,k1,k2=>by omega
 | f+1,v,k0,k1,k2=>by
  unfold zP
  by_cases hc:v≤q
  ·rw [decide_eq_true hc,cond_true,y7 (n:=v+1) (by omega) (by omega),show (q+1 - v).toNat=(q+1 - (v+1)).toNat+1 by omega,pL]
   rcases t19b_eq (W:=W) hn ⟨k0,by omega⟩ one h1 with ⟨h3,e⟩ | e <;> rw [e] <;> dsimp only
   ·rw [h3]
    exact t16_eq f (v+1) (by omega) (by omega) (by omega)
   ·exact .inl (t16a_eq hn hq h1 f _ (v+1) (by omega) (by omega) (by omega))
  ·rw [decide_eq_false hc,show (q+1 - v).toNat=0 by omega]
   exact .inr ⟨rfl,v,rfl⟩
end
theorem pL_len {n:Int} {W:Sn} {one:List Sn}:∀ (m:Nat) (v:Int),(pL n W one m v).length≤m * one.length
 | 0,v=>by simp [pL]
 | m+1,v=>by
  unfold pL
  rw [List.length_append,Nat.succ_mul]
  have:=pL_len (n:=n) (W:=W) (one:=one) m (v+1)
  have:=flat_len (f:=pF n W v) (m:=1) (l:=one) (fun x _=>some_len)
  omega
theorem pL_ne {n:Int} {W:Sn} {one:List Sn}:∀ (m:Nat) (v:Int),∀ s∈pL n W one m v,s.lo≤s.hi
 | 0,v,s,h=>by cases h
 | m+1,v,s,h=>by
  rcases List.mem_append.1 h with h | h
  ·obtain ⟨x,_,h⟩:=List.mem_flatMap.1 h
   exact some_ne s h
  ·exact pL_ne m _ s h
theorem In_pL {n:Int} {W:Sn} {one:List Sn}:∀ (m:Nat) (v y:Int),In (pL n W one m v) y↔W.lo≤y∧y≤W.hi∧∃ k:Int,v≤k∧k < v+m∧In one (y - k * n)
 | 0,v,y=>⟨fun h=>absurd h In_nil,fun ⟨_,_,k,h1,h2,_⟩=>by omega⟩
 | m+1,v,y=>by
  unfold pL
  rw [In_append,In_pL m (v+1) y,In_flat]
  constructor
  ·rintro (⟨x,hx,h⟩ | ⟨h1,h2,k,h3,h4,h5⟩)
   ·have:=In_some.1 h
    exact ⟨by omega,by omega,v,Int.le_refl _,by omega,x,hx,by omega,by omega⟩
   ·exact ⟨h1,h2,k,by omega,by omega,h5⟩
  ·rintro ⟨h1,h2,k,h3,h4,h5⟩
   by_cases he:k=v
   ·subst he
    obtain ⟨x,hx,h6,h7⟩:=h5
    exact .inl ⟨x,hx,In_some.2 ⟨by omega,by omega⟩⟩
   ·exact .inr ⟨h1,h2,k,by omega,by omega,h5⟩
def TurnS (n:Int) (W:Sn) (one:List Sn) (y:Int):Prop:=W.lo≤y∧y≤W.hi∧In one (y % n)
theorem turn_k {n y k:Int} (hn:1≤n):(0≤y - k * n∧y - k * n < n)→k=y / n∧y - k * n=y % n:=fun ⟨h1,h2⟩=>by
 have e:y - k * n+n * k=y:=by rw [Int.mul_comm n k]; omega
 have:=(Int.ediv_emod_unique (a:=y) (b:=n) (r:=y - k * n) (q:=k) (by omega)).2 ⟨e,h1,h2⟩
 exact ⟨this.1.symm,this.2.symm⟩
theorem In_turns {n:Int} {W:Sn} {one:List Sn} (hn:1≤n) (hW:W.lo≤W.hi) (h1:∀ s∈one,0≤s.lo∧s.lo≤s.hi∧s.hi < n) {y:Int}:In (pL n W one (W.hi / n+1 - W.lo / n).toNat (W.lo / n)) y↔TurnS n W one y:=by
 rw [In_pL]
 unfold TurnS
 constructor
 ·rintro ⟨h2,h3,k,h4,h5,h6⟩
  refine ⟨h2,h3,?_⟩
  obtain ⟨s,hs,h7,h8⟩:=h6
  have:=h1 s hs
  have tk:=turn_k (n:=n) (y:=y) (k:=k) hn ⟨by omega,by omega⟩
  rw [← tk.2]
  exact ⟨s,hs,h7,h8⟩
 ·rintro ⟨h2,h3,h4⟩
  have e:n * (y / n)+y % n=y:=Int.mul_ediv_add_emod _ _
  have m1:W.lo / n≤y / n:=Int.ediv_le_ediv (by omega) h2
  have m2:y / n≤W.hi / n:=Int.ediv_le_ediv (by omega) h3
  refine ⟨h2,h3,y / n,m1,by omega,?_⟩
  rw [Int.mul_comm (y / n) n,show y - n * (y / n)=y % n by omega]
  exact h4
end Go.VS

namespace Go.VS
open Go Go.Proofs
set_option maxHeartbeats 0
set_option linter.unusedSimpArgs false
set_option linter.unusedVariables false
theorem turns_n (r:GS Sn) (n:Int) (hL:r.l.length≤64) (h0:¬ (n < 1)) (h:decide (n > 10000)=false):(1≤n∧n≤10000)∧(zf r n).l.length≤128:=by
 have h:=of_decide_eq_false h
 exact ⟨by omega,rrests_len r n hL (by omega)⟩

def sd45045 (ν0 ν1 ν2:Nat) (μ0:GS Sn) (μ1:Int) (μ2:List Sn) (μ3:Int) (μ4:Sn):St:=⟨121,[(77,B false),(76,I ((μ0.l.length:Nat):Int)),(75,.sl μ0.nl (μ0.l.map Sn.D) (zsl μ0.nl 2) none),(74,I ((μ0.l.length:Nat):Int)),(1,I μ1),(5,.lref ν0 0 2 0),(8,.sl μ0.nl (μ0.l.map Sn.D) (zsl μ0.nl 2) none),(9,.lsl ν1 0 μ2.length 2 none),(10,I μ3),(11,I ((μ0.l.length:Nat):Int))],[(ν0,⟨[.agg [I μ4.lo,I μ4.hi]],2,false⟩),(ν1,⟨μ2.map Sn.D,2,false⟩)],ν2,ν0⟩

noncomputable def lp23_15:Code:=subC [1,1,1,1,1,1,1,0,1,0,0,1,0,0,0,1,0,0] (bodyC Tryz.f23)

def sd45047 (ν0 ν1 ν2 ν3 ν4 ν5:Nat) (μ0:Nat) (μ1:List Sn) (μ2:Int) (μ3:Sn) (μ4:Sn) (μ5:GS Sn) (μ6:Int):St:=⟨121,[(11,I ((μ0+1:Nat):Int)),(79,I ((μ0+1:Nat):Int)),(78,I ((μ0:Nat):Int)),(9,.lsl ν0 0 ((μ1++[(⟨zu (w64 (μ2+μ3.lo)) μ4.lo,zT (w64 (μ2+μ3.hi)) μ4.hi⟩:Sn)]).length) 2 none),(109,.lsl ν0 0 ((μ1++[(⟨zu (w64 (μ2+μ3.lo)) μ4.lo,zT (w64 (μ2+μ3.hi)) μ4.hi⟩:Sn)]).length) 2 none),(108,.lsl ν1 0 1 2 (some 1)),(107,.agg [I (zu (w64 (μ2+μ3.lo)) μ4.lo),I (zT (w64 (μ2+μ3.hi)) μ4.hi)]),(106,.lsl ν2 0 μ1.length 2 none),(105,B true),(104,I (zT (w64 (μ2+μ3.hi)) μ4.hi)),(103,.lref ν3 0 2 1),(102,I (zu (w64 (μ2+μ3.lo)) μ4.lo)),(101,.lref ν3 0 2 0),(12,.lref ν3 0 2 0),(100,.agg [I (zu (w64 (μ2+μ3.lo)) μ4.lo),I (zT (w64 (μ2+μ3.hi)) μ4.hi)]),(99,I (zT (w64 (μ2+μ3.hi)) μ4.hi)),(98,I μ4.hi),(97,.lref ν4 0 2 1),(96,I (w64 (μ2+μ3.hi))),(95,I μ3.hi),(94,.ptr (I μ3.hi)),(93,.ptr (.agg [I μ3.lo,I μ3.hi])),(92,I ((μ0:Nat):Int)),(91,.sl μ5.nl (μ5.l.map Sn.D) (zsl μ5.nl 2) none),(90,I μ2),(89,I (zu (w64 (μ2+μ3.lo)) μ4.lo)),(88,I μ4.lo),(87,.lref ν4 0 2 0),(86,I (w64 (μ2+μ3.lo))),(85,I μ3.lo),(84,.ptr (I μ3.lo)),(83,.ptr (.agg [I μ3.lo,I μ3.hi])),(82,I ((μ0:Nat):Int)),(81,.sl μ5.nl (μ5.l.map Sn.D) (zsl μ5.nl 2) none),(80,I μ2),(77,B true),(76,I ((μ5.l.length:Nat):Int)),(75,.sl μ5.nl (μ5.l.map Sn.D) (zsl μ5.nl 2) none),(74,I ((μ0:Nat):Int)),(1,I μ6),(5,.lref ν4 0 2 0),(8,.sl μ5.nl (μ5.l.map Sn.D) (zsl μ5.nl 2) none),(9,.lsl ν2 0 μ1.length 2 none),(10,I μ2),(11,I ((μ0:Nat):Int))],[(ν4,⟨[.agg [I μ4.lo,I μ4.hi]],2,false⟩),(ν3,⟨[.agg [I (zu (w64 (μ2+μ3.lo)) μ4.lo),I (zT (w64 (μ2+μ3.hi)) μ4.hi)]],2,false⟩),(ν1,⟨[.agg [I (zu (w64 (μ2+μ3.lo)) μ4.lo),I (zT (w64 (μ2+μ3.hi)) μ4.hi)]],2,false⟩),(ν0,⟨(μ1++[(⟨zu (w64 (μ2+μ3.lo)) μ4.lo,zT (w64 (μ2+μ3.hi)) μ4.hi⟩:Sn)]).map Sn.D,2,false⟩)],ν5,ν4⟩

def sd45048 (ν0 ν1 ν2 ν3:Nat) (μ0:Nat) (μ1:Int) (μ2:Sn) (μ3:Sn) (μ4:GS Sn) (μ5:Int) (μ6:List Sn):St:=⟨121,[(11,I ((μ0+1:Nat):Int)),(79,I ((μ0+1:Nat):Int)),(78,I ((μ0:Nat):Int)),(105,B false),(104,I (zT (w64 (μ1+μ2.hi)) μ3.hi)),(103,.lref ν0 0 2 1),(102,I (zu (w64 (μ1+μ2.lo)) μ3.lo)),(101,.lref ν0 0 2 0),(12,.lref ν0 0 2 0),(100,.agg [I (zu (w64 (μ1+μ2.lo)) μ3.lo),I (zT (w64 (μ1+μ2.hi)) μ3.hi)]),(99,I (zT (w64 (μ1+μ2.hi)) μ3.hi)),(98,I μ3.hi),(97,.lref ν1 0 2 1),(96,I (w64 (μ1+μ2.hi))),(95,I μ2.hi),(94,.ptr (I μ2.hi)),(93,.ptr (.agg [I μ2.lo,I μ2.hi])),(92,I ((μ0:Nat):Int)),(91,.sl μ4.nl (μ4.l.map Sn.D) (zsl μ4.nl 2) none),(90,I μ1),(89,I (zu (w64 (μ1+μ2.lo)) μ3.lo)),(88,I μ3.lo),(87,.lref ν1 0 2 0),(86,I (w64 (μ1+μ2.lo))),(85,I μ2.lo),(84,.ptr (I μ2.lo)),(83,.ptr (.agg [I μ2.lo,I μ2.hi])),(82,I ((μ0:Nat):Int)),(81,.sl μ4.nl (μ4.l.map Sn.D) (zsl μ4.nl 2) none),(80,I μ1),(77,B true),(76,I ((μ4.l.length:Nat):Int)),(75,.sl μ4.nl (μ4.l.map Sn.D) (zsl μ4.nl 2) none),(74,I ((μ0:Nat):Int)),(1,I μ5),(5,.lref ν1 0 2 0),(8,.sl μ4.nl (μ4.l.map Sn.D) (zsl μ4.nl 2) none),(9,.lsl ν2 0 μ6.length 2 none),(10,I μ1),(11,I ((μ0:Nat):Int))],[(ν1,⟨[.agg [I μ3.lo,I μ3.hi]],2,false⟩),(ν2,⟨μ6.map Sn.D,2,false⟩),(ν0,⟨[.agg [I (zu (w64 (μ1+μ2.lo)) μ3.lo),I (zT (w64 (μ1+μ2.hi)) μ3.hi)]],2,false⟩)],ν3,ν1⟩

inductive LR_r_Turns_15 where
 | x0 (yN:List Sn)
instance:Inhabited LR_r_Turns_15:=⟨.x0 default⟩
def r_Turns_15 (within:Sn) (yE:Int):List Sn→(List Sn)→LR_r_Turns_15
 | [],yN=>.x0 yN
 | x15::xM,yN =>
  bif decide ((zu (w64 (yE+x15.lo)) within.lo)≤(zT (w64 (yE+x15.hi)) within.hi)) then
   r_Turns_15 within yE xM (yN++[(⟨zu (w64 (yE+x15.lo)) within.lo,zT (w64 (yE+x15.hi)) within.hi⟩:Sn)])
  else
   r_Turns_15 within yE xM yN
def lr_r_Turns_15 (n:Int) (within:Sn) (yA:GS Sn) (yE:Int):LR_r_Turns_15→Exit × St
 | .x0 yN=>((.exit 2),(sd45045 0 1 2 yA n yN yE within))
def iv_r_Turns_15 (n:Int) (within:Sn) (yA:GS Sn) (yE:Int):LR_r_Turns_15→Prop
 | .x0 yN=>(yN.length≤128+yA.l.length+yA.l.length)
theorem lp_r_Turns_15 (n:Int) (within:Sn) (yA:GS Sn) (yE:Int):∀ (xM:List Sn) (i15:Nat) (yN:List Sn) (hd15:yA.l.drop i15=xM) (hi15:i15≤yA.l.length) (hn:1≤n∧n≤10000) (hl:yA.l.length≤128) (hb0:-1099511637777≤yE∧yE≤within.hi+n∧within.hi≤1099511627776) (hw0:yN.length≤128+yA.l.length+i15) (hL15:yA.l.length≤9223372036854775807),(lim cfg).loop 23 lp23_15 ⟨121,[(1,I n),(5,.lref 0 0 2 0),(8,.sl yA.nl (yA.l.map Sn.D) (zsl yA.nl 2) none),(9,.lsl 1 0 yN.length 2 none),(10,I yE),(11,I ((i15:Nat):Int))],[(0,⟨[.agg [I within.lo,I within.hi]],2,false⟩),(1,⟨yN.map Sn.D,2,false⟩)],2,0⟩=some (lr_r_Turns_15 n within yA yE (r_Turns_15 within yE xM yN)):=by
 intro xM
 induction xM with
 | nil =>
  intro i15 yN hd15 hi15 hn hl hb0 hw0 hL15
  unfold r_Turns_15
  obtain rfl:i15=yA.l.length:=nil_eq hd15 hi15
  exact zF [.rw 76 (I ((yA.l.length:Nat):Int)),.dec false] (Ai (lt_no hd15) (Ai (zj Sn.D yA) trivial)) (by kernel_rfl)
 | cons x15 xM ih =>
  intro i15 yN hd15 hi15 hn hl hb0 hw0 hL15
  have hlt15:=zc hd15
  unfold r_Turns_15
  cases h25:decide ((zu (w64 (yE+x15.lo)) within.lo)≤(zT (w64 (yE+x15.hi)) within.hi)) with
  | true =>
   have g25:=of_decide_eq_true h25
   exact zv (ks:=[1,5,8,9,10,11]) (st':=(sd45047 4 3 1 2 0 5 i15 yN yE x15 within yA n)) [.rw 76 (I ((yA.l.length:Nat):Int)),.dec true,.el (.agg [I x15.lo,I x15.hi]),.el (.agg [I x15.lo,I x15.hi]),.dec true,.op (some 109) ⟨.lsl 4 0 ((yN++[(⟨zu (w64 (yE+x15.lo)) within.lo,zT (w64 (yE+x15.hi)) within.hi⟩:Sn)]).length) 2 none,[(1,none),(4,some ⟨(yN++[(⟨zu (w64 (yE+x15.lo)) within.lo,zT (w64 (yE+x15.hi)) within.hi⟩:Sn)]).map Sn.D,2,false⟩)],[1,3],5⟩,.rw 79 (I ((i15+1:Nat):Int))] (Ai (zX (i:=i15) (by have:=zc hd15; omega)) (Ai (app_row (f:=Sn.D) (te:=zM) (gO:=zp [(0,⟨[.agg [I within.lo,I within.hi]],2,false⟩),(1,⟨yN.map Sn.D,2,false⟩),(2,⟨[.agg [I (zu (w64 (yE+x15.lo)) within.lo),I (zT (w64 (yE+x15.hi)) within.hi)]],2,false⟩),(3,⟨[.agg [I (zu (w64 (yE+x15.lo)) within.lo),I (zT (w64 (yE+x15.hi)) within.hi)]],2,false⟩)]) (nxt:=4) (o:=1) (o2:=3) (fz:=false) z6 yN (⟨zu (w64 (yE+x15.lo)) within.lo,zT (w64 (yE+x15.hi)) within.hi⟩:Sn) (by kernel_rfl) (by kernel_rfl) rfl (by kernel_rfl) (by decide) ⟨by simp only [zM,big] <;> (omega),by simp only [big] <;> (omega)⟩) (Ai h25 (Ai (el_at (s:=yA) (f:=Sn.D) (k:=2) hd15) (Ai (el_at (s:=yA) (f:=Sn.D) (k:=2) hd15) (Ai (yk hd15) (Ai (zj Sn.D yA) trivial))))))) (by kernel_rfl) (by (simp only [sd45047,go_sem,List.length_set,Nat.reduceAdd,Nat.reduceEqDiff,Nat.reduceLT,Nat.reduceLeDiff,bI2,z8.idsL,z8.renL,z8.snapAll,z6.idsL,z6.renL,z6.snapAll]) <;> rfl) (ih (i15+1) (yN++[(⟨zu (w64 (yE+x15.lo)) within.lo,zT (w64 (yE+x15.hi)) within.hi⟩:Sn)]) (ze hd15) (zc hd15) (by omega) (by omega) (by omega) (by simp only [List.length_append,List.length_cons,List.length_nil] at * <;> omega) (by omega)) (by kernel_rfl)
  | false =>
   have g25:=of_decide_eq_false h25
   exact zv (ks:=[1,5,8,9,10,11]) (st':=(sd45048 2 0 1 3 i15 yE x15 within yA n yN)) [.rw 76 (I ((yA.l.length:Nat):Int)),.dec true,.el (.agg [I x15.lo,I x15.hi]),.el (.agg [I x15.lo,I x15.hi]),.dec false,.rw 79 (I ((i15+1:Nat):Int))] (Ai (zX (i:=i15) (by have:=zc hd15; omega)) (Ai h25 (Ai (el_at (s:=yA) (f:=Sn.D) (k:=2) hd15) (Ai (el_at (s:=yA) (f:=Sn.D) (k:=2) hd15) (Ai (yk hd15) (Ai (zj Sn.D yA) trivial)))))) (by kernel_rfl) (by (simp only [sd45048,go_sem,List.length_set,Nat.reduceAdd,Nat.reduceEqDiff,Nat.reduceLT,Nat.reduceLeDiff,bI2,z8.idsL,z8.renL,z8.snapAll,z6.idsL,z6.renL,z6.snapAll]) <;> rfl) (ih (i15+1) yN (ze hd15) (zc hd15) (by omega) (by omega) (by omega) (by omega) (by omega)) (by kernel_rfl)
theorem ivt_r_Turns_15 (n:Int) (within:Sn) (yA:GS Sn) (yE:Int):∀ (xM:List Sn) (i15:Nat) (yN:List Sn) (hd15:yA.l.drop i15=xM) (hi15:i15≤yA.l.length) (hn:1≤n∧n≤10000) (hl:yA.l.length≤128) (hb0:-1099511637777≤yE∧yE≤within.hi+n∧within.hi≤1099511627776) (hw0:yN.length≤128+yA.l.length+i15) (hL15:yA.l.length≤9223372036854775807),iv_r_Turns_15 n within yA yE (r_Turns_15 within yE xM yN):=by
 intro xM
 induction xM with
 | nil =>
  intro i15 yN hd15 hi15 hn hl hb0 hw0 hL15
  unfold r_Turns_15
  obtain rfl:i15=yA.l.length:=nil_eq hd15 hi15
  exact hw0
 | cons x15 xM ih =>
  intro i15 yN hd15 hi15 hn hl hb0 hw0 hL15
  have hlt15:=zc hd15
  unfold r_Turns_15
  cases h25:decide ((zu (w64 (yE+x15.lo)) within.lo)≤(zT (w64 (yE+x15.hi)) within.hi)) with
  | true =>
   have g25:=of_decide_eq_true h25
   exact ih (i15+1) (yN++[(⟨zu (w64 (yE+x15.lo)) within.lo,zT (w64 (yE+x15.hi)) within.hi⟩:Sn)]) (ze hd15) (zc hd15) (by omega) (by omega) (by omega) (by simp only [List.length_append,List.length_cons,List.length_nil] at * <;> omega) (by omega)
  | false =>
   have g25:=of_decide_eq_false h25
   exact ih (i15+1) yN (ze hd15) (zc hd15) (by omega) (by omega) (by omega) (by omega) (by omega)

def sd45046 (ν0 ν1:Nat) (μ0:GS Sn) (μ1:Int) (μ2:Int) (μ3:Sn):St:=⟨121,[(77,B false),(76,I ((μ0.l.length:Nat):Int)),(75,.sl μ0.nl (μ0.l.map Sn.D) (zsl μ0.nl 2) none),(74,I ((μ0.l.length:Nat):Int)),(1,I μ1),(5,.lref ν0 0 2 0),(8,.sl μ0.nl (μ0.l.map Sn.D) (zsl μ0.nl 2) none),(9,.sl true [] 0 none),(10,I μ2),(11,I ((μ0.l.length:Nat):Int))],[(ν0,⟨[.agg [I μ3.lo,I μ3.hi]],2,false⟩)],ν1,ν0⟩

inductive LR_r_Turns_15p1 where
 | x0 (yx:List Sn)
 | x1
instance:Inhabited LR_r_Turns_15p1:=⟨.x0 default⟩
def r_Turns_15p1a (within:Sn) (yK:Int):List Sn→(List Sn)→LR_r_Turns_15p1
 | [],yx=>.x0 yx
 | xf::yZ,yx =>
  bif decide ((zu (w64 (yK+xf.lo)) within.lo)≤(zT (w64 (yK+xf.hi)) within.hi)) then
   r_Turns_15p1a within yK yZ (yx++[(⟨zu (w64 (yK+xf.lo)) within.lo,zT (w64 (yK+xf.hi)) within.hi⟩:Sn)])
  else
   r_Turns_15p1a within yK yZ yx
def r_Turns_15p1 (within:Sn) (yK:Int):List Sn→LR_r_Turns_15p1
 | []=>.x1
 | xf::yZ =>
  bif decide ((zu (w64 (yK+xf.lo)) within.lo)≤(zT (w64 (yK+xf.hi)) within.hi)) then
   r_Turns_15p1a within yK yZ [(⟨zu (w64 (yK+xf.lo)) within.lo,zT (w64 (yK+xf.hi)) within.hi⟩:Sn)]
  else
   r_Turns_15p1 within yK yZ
def lr_r_Turns_15p1 (n:Int) (within:Sn) (yA:GS Sn) (yK:Int):LR_r_Turns_15p1→Exit × St
 | .x0 yx=>((.exit 2),(sd45045 0 1 2 yA n yx yK within))
 | .x1=>((.exit 2),(sd45046 0 1 yA n yK within))
def iv_r_Turns_15p1 (n:Int) (within:Sn) (yA:GS Sn) (yK:Int):LR_r_Turns_15p1→Prop
 | .x0 yx=>(yx.length≤128+yA.l.length+yA.l.length)
 | .x1=>True
theorem lp_r_Turns_15p1a (n:Int) (within:Sn) (yA:GS Sn) (yK:Int):∀ (yZ:List Sn) (xn:Nat) (yx:List Sn) (yW:yA.l.drop xn=yZ) (xI:xn≤yA.l.length) (hn:1≤n∧n≤10000) (hl:yA.l.length≤128) (hb1:-1099511637777≤yK∧yK≤within.hi+n∧within.hi≤1099511627776) (hw1:yx.length≤128+yA.l.length+xn) (hL15p1:yA.l.length≤9223372036854775807),(lim cfg).loop 23 lp23_15 ⟨121,[(1,I n),(5,.lref 0 0 2 0),(8,.sl yA.nl (yA.l.map Sn.D) (zsl yA.nl 2) none),(9,.lsl 1 0 yx.length 2 none),(10,I yK),(11,I ((xn:Nat):Int))],[(0,⟨[.agg [I within.lo,I within.hi]],2,false⟩),(1,⟨yx.map Sn.D,2,false⟩)],2,0⟩=some (lr_r_Turns_15p1 n within yA yK (r_Turns_15p1a within yK yZ yx)):=by
 intro yZ
 induction yZ with
 | nil =>
  intro xn yx yW xI hn hl hb1 hw1 hL15p1
  unfold r_Turns_15p1a
  obtain rfl:xn=yA.l.length:=nil_eq yW xI
  exact zF [.rw 76 (I ((yA.l.length:Nat):Int)),.dec false] (Ai (lt_no yW) (Ai (zj Sn.D yA) trivial)) (by kernel_rfl)
 | cons xf yZ ih =>
  intro xn yx yW xI hn hl hb1 hw1 hL15p1
  have hlt15p1:=zc yW
  unfold r_Turns_15p1a
  cases h31:decide ((zu (w64 (yK+xf.lo)) within.lo)≤(zT (w64 (yK+xf.hi)) within.hi)) with
  | true =>
   have g31:=of_decide_eq_true h31
   exact zv (ks:=[1,5,8,9,10,11]) (st':=(sd45047 4 3 1 2 0 5 xn yx yK xf within yA n)) [.rw 76 (I ((yA.l.length:Nat):Int)),.dec true,.el (.agg [I xf.lo,I xf.hi]),.el (.agg [I xf.lo,I xf.hi]),.dec true,.op (some 109) ⟨.lsl 4 0 ((yx++[(⟨zu (w64 (yK+xf.lo)) within.lo,zT (w64 (yK+xf.hi)) within.hi⟩:Sn)]).length) 2 none,[(1,none),(4,some ⟨(yx++[(⟨zu (w64 (yK+xf.lo)) within.lo,zT (w64 (yK+xf.hi)) within.hi⟩:Sn)]).map Sn.D,2,false⟩)],[1,3],5⟩,.rw 79 (I ((xn+1:Nat):Int))] (Ai (zX (i:=xn) (by have:=zc yW; omega)) (Ai (app_row (f:=Sn.D) (te:=zM) (gO:=zp [(0,⟨[.agg [I within.lo,I within.hi]],2,false⟩),(1,⟨yx.map Sn.D,2,false⟩),(2,⟨[.agg [I (zu (w64 (yK+xf.lo)) within.lo),I (zT (w64 (yK+xf.hi)) within.hi)]],2,false⟩),(3,⟨[.agg [I (zu (w64 (yK+xf.lo)) within.lo),I (zT (w64 (yK+xf.hi)) within.hi)]],2,false⟩)]) (nxt:=4) (o:=1) (o2:=3) (fz:=false) z6 yx (⟨zu (w64 (yK+xf.lo)) within.lo,zT (w64 (yK+xf.hi)) within.hi⟩:Sn) (by kernel_rfl) (by kernel_rfl) rfl (by kernel_rfl) (by decide) ⟨by simp only [zM,big] <;> (omega),by simp only [big] <;> (omega)⟩) (Ai h31 (Ai (el_at (s:=yA) (f:=Sn.D) (k:=2) yW) (Ai (el_at (s:=yA) (f:=Sn.D) (k:=2) yW) (Ai (yk yW) (Ai (zj Sn.D yA) trivial))))))) (by kernel_rfl) (by (simp only [sd45047,go_sem,List.length_set,Nat.reduceAdd,Nat.reduceEqDiff,Nat.reduceLT,Nat.reduceLeDiff,bI2,z8.idsL,z8.renL,z8.snapAll,z6.idsL,z6.renL,z6.snapAll]) <;> rfl) (ih (xn+1) (yx++[(⟨zu (w64 (yK+xf.lo)) within.lo,zT (w64 (yK+xf.hi)) within.hi⟩:Sn)]) (ze yW) (zc yW) (by omega) (by omega) (by omega) (by simp only [List.length_append,List.length_cons,List.length_nil] at * <;> omega) (by omega)) (by kernel_rfl)
  | false =>
   have g31:=of_decide_eq_false h31
   exact zv (ks:=[1,5,8,9,10,11]) (st':=(sd45048 2 0 1 3 xn yK xf within yA n yx)) [.rw 76 (I ((yA.l.length:Nat):Int)),.dec true,.el (.agg [I xf.lo,I xf.hi]),.el (.agg [I xf.lo,I xf.hi]),.dec false,.rw 79 (I ((xn+1:Nat):Int))] (Ai (zX (i:=xn) (by have:=zc yW; omega)) (Ai h31 (Ai (el_at (s:=yA) (f:=Sn.D) (k:=2) yW) (Ai (el_at (s:=yA) (f:=Sn.D) (k:=2) yW) (Ai (yk yW) (Ai (zj Sn.D yA) trivial)))))) (by kernel_rfl) (by (simp only [sd45048,go_sem,List.length_set,Nat.reduceAdd,Nat.reduceEqDiff,Nat.reduceLT,Nat.reduceLeDiff,bI2,z8.idsL,z8.renL,z8.snapAll,z6.idsL,z6.renL,z6.snapAll]) <;> rfl) (ih (xn+1) yx (ze yW) (zc yW) (by omega) (by omega) (by omega) (by omega) (by omega)) (by kernel_rfl)
theorem ivt_r_Turns_15p1a (n:Int) (within:Sn) (yA:GS Sn) (yK:Int):∀ (yZ:List Sn) (xn:Nat) (yx:List Sn) (yW:yA.l.drop xn=yZ) (xI:xn≤yA.l.length) (hn:1≤n∧n≤10000) (hl:yA.l.length≤128) (hb1:-1099511637777≤yK∧yK≤within.hi+n∧within.hi≤1099511627776) (hw1:yx.length≤128+yA.l.length+xn) (hL15p1:yA.l.length≤9223372036854775807),iv_r_Turns_15p1 n within yA yK (r_Turns_15p1a within yK yZ yx):=by
 intro yZ
 induction yZ with
 | nil =>
  intro xn yx yW xI hn hl hb1 hw1 hL15p1
  unfold r_Turns_15p1a
  obtain rfl:xn=yA.l.length:=nil_eq yW xI
  exact hw1
 | cons xf yZ ih =>
  intro xn yx yW xI hn hl hb1 hw1 hL15p1
  have hlt15p1:=zc yW
  unfold r_Turns_15p1a
  cases h31:decide ((zu (w64 (yK+xf.lo)) within.lo)≤(zT (w64 (yK+xf.hi)) within.hi)) with
  | true =>
   have g31:=of_decide_eq_true h31
   exact ih (xn+1) (yx++[(⟨zu (w64 (yK+xf.lo)) within.lo,zT (w64 (yK+xf.hi)) within.hi⟩:Sn)]) (ze yW) (zc yW) (by omega) (by omega) (by omega) (by simp only [List.length_append,List.length_cons,List.length_nil] at * <;> omega) (by omega)
  | false =>
   have g31:=of_decide_eq_false h31
   exact ih (xn+1) yx (ze yW) (zc yW) (by omega) (by omega) (by omega) (by omega) (by omega)
theorem lp_r_Turns_15p1 (n:Int) (within:Sn) (yA:GS Sn) (yK:Int):∀ (yZ:List Sn) (xn:Nat) (yW:yA.l.drop xn=yZ) (xI:xn≤yA.l.length) (hn:1≤n∧n≤10000) (hl:yA.l.length≤128) (hb0:-1099511637777≤yK∧yK≤within.hi+n∧within.hi≤1099511627776) (hL15p1:yA.l.length≤9223372036854775807),(lim cfg).loop 23 lp23_15 ⟨121,[(1,I n),(5,.lref 0 0 2 0),(8,.sl yA.nl (yA.l.map Sn.D) (zsl yA.nl 2) none),(9,.sl true [] 0 none),(10,I yK),(11,I ((xn:Nat):Int))],[(0,⟨[.agg [I within.lo,I within.hi]],2,false⟩)],1,0⟩=some (lr_r_Turns_15p1 n within yA yK (r_Turns_15p1 within yK yZ)):=by
 intro yZ
 induction yZ with
 | nil =>
  intro xn yW xI hn hl hb0 hL15p1
  unfold r_Turns_15p1
  obtain rfl:xn=yA.l.length:=nil_eq yW xI
  exact zF [.rw 76 (I ((yA.l.length:Nat):Int)),.dec false] (Ai (lt_no yW) (Ai (zj Sn.D yA) trivial)) (by kernel_rfl)
 | cons xf yZ ih =>
  intro xn yW xI hn hl hb0 hL15p1
  have hlt15p1:=zc yW
  unfold r_Turns_15p1
  cases h32:decide ((zu (w64 (yK+xf.lo)) within.lo)≤(zT (w64 (yK+xf.hi)) within.hi)) with
  | true =>
   have g32:=of_decide_eq_true h32
   exact po_turn [.rw 76 (I ((yA.l.length:Nat):Int)),.dec true,.el (.agg [I xf.lo,I xf.hi]),.el (.agg [I xf.lo,I xf.hi]),.dec true,.rw 79 (I ((xn+1:Nat):Int))] (Ai (zX (i:=xn) (by have:=zc yW; omega)) (Ai h32 (Ai (el_at (s:=yA) (f:=Sn.D) (k:=2) yW) (Ai (el_at (s:=yA) (f:=Sn.D) (k:=2) yW) (Ai (yk yW) (Ai (zj Sn.D yA) trivial)))))) (lp_r_Turns_15p1a n within yA yK _ (xn+1) [(⟨zu (w64 (yK+xf.lo)) within.lo,zT (w64 (yK+xf.hi)) within.hi⟩:Sn)] (ze yW) (zc yW) (by omega) (by omega) (by omega) (by simp only [List.length_append,List.length_cons,List.length_nil] at * <;> omega) (by omega)) (by kernel_rfl)
  | false =>
   have g32:=of_decide_eq_false h32
   exact po_turn [.rw 76 (I ((yA.l.length:Nat):Int)),.dec true,.el (.agg [I xf.lo,I xf.hi]),.el (.agg [I xf.lo,I xf.hi]),.dec false,.rw 79 (I ((xn+1:Nat):Int))] (Ai (zX (i:=xn) (by have:=zc yW; omega)) (Ai h32 (Ai (el_at (s:=yA) (f:=Sn.D) (k:=2) yW) (Ai (el_at (s:=yA) (f:=Sn.D) (k:=2) yW) (Ai (yk yW) (Ai (zj Sn.D yA) trivial)))))) (ih (xn+1) (ze yW) (zc yW) (by omega) (by omega) (by omega) (by omega)) (by kernel_rfl)
theorem ivt_r_Turns_15p1 (n:Int) (within:Sn) (yA:GS Sn) (yK:Int):∀ (yZ:List Sn) (xn:Nat) (yW:yA.l.drop xn=yZ) (xI:xn≤yA.l.length) (hn:1≤n∧n≤10000) (hl:yA.l.length≤128) (hb0:-1099511637777≤yK∧yK≤within.hi+n∧within.hi≤1099511627776) (hL15p1:yA.l.length≤9223372036854775807),iv_r_Turns_15p1 n within yA yK (r_Turns_15p1 within yK yZ):=by
 intro yZ
 induction yZ with
 | nil =>
  intro xn yW xI hn hl hb0 hL15p1
  unfold r_Turns_15p1
  obtain rfl:xn=yA.l.length:=nil_eq yW xI
  exact trivial
 | cons xf yZ ih =>
  intro xn yW xI hn hl hb0 hL15p1
  have hlt15p1:=zc yW
  unfold r_Turns_15p1
  cases h32:decide ((zu (w64 (yK+xf.lo)) within.lo)≤(zT (w64 (yK+xf.hi)) within.hi)) with
  | true =>
   have g32:=of_decide_eq_true h32
   exact ivt_r_Turns_15p1a n within yA yK _ (xn+1) [(⟨zu (w64 (yK+xf.lo)) within.lo,zT (w64 (yK+xf.hi)) within.hi⟩:Sn)] (ze yW) (zc yW) (by omega) (by omega) (by omega) (by simp only [List.length_append,List.length_cons,List.length_nil] at * <;> omega) (by omega)
  | false =>
   have g32:=of_decide_eq_false h32
   exact ih (xn+1) (ze yW) (zc yW) (by omega) (by omega) (by omega) (by omega)

def sd45051 (ν0 ν1 ν2:Nat) (μ0:GS Sn) (μ1:List Sn) (μ2:Int) (μ3:Int) (μ4:Sn):St:=⟨121,[(115,B true),(114,I (w64 (128+((μ0.l.length:Nat):Int)))),(113,I ((μ0.l.length:Nat):Int)),(112,.sl μ0.nl (μ0.l.map Sn.D) (zsl μ0.nl 2) none),(111,I ((μ1.length:Nat):Int)),(110,.lsl ν0 0 μ1.length 2 none),(77,B false),(76,I ((μ0.l.length:Nat):Int)),(75,.sl μ0.nl (μ0.l.map Sn.D) (zsl μ0.nl 2) none),(74,I ((μ0.l.length:Nat):Int)),(1,I μ2),(5,.lref ν1 0 2 0),(8,.sl μ0.nl (μ0.l.map Sn.D) (zsl μ0.nl 2) none),(9,.lsl ν0 0 μ1.length 2 none),(10,I μ3),(11,I ((μ0.l.length:Nat):Int))],[(ν1,⟨[.agg [I μ4.lo,I μ4.hi]],2,false⟩),(ν0,⟨μ1.map Sn.D,2,false⟩)],ν2,ν1⟩

def sd45052 (ν0 ν1 ν2:Nat) (μ0:Sn) (μ1:Int) (μ2:Int) (μ3:GS Sn) (μ4:List Sn):St:=⟨121,[(70,B false),(69,I μ0.hi),(68,.lref ν0 0 2 1),(67,I μ1),(1,I μ2),(5,.lref ν0 0 2 0),(8,.sl μ3.nl (μ3.l.map Sn.D) (zsl μ3.nl 2) none),(9,.lsl ν1 0 μ4.length 2 none),(10,I μ1)],[(ν0,⟨[.agg [I μ0.lo,I μ0.hi]],2,false⟩),(ν1,⟨μ4.map Sn.D,2,false⟩)],ν2,ν0⟩

def sd45053 (ν0 ν1:Nat) (μ0:GS Sn) (μ1:Int) (μ2:Int) (μ3:Sn):St:=⟨121,[(115,B true),(114,I (w64 (128+((μ0.l.length:Nat):Int)))),(113,I ((μ0.l.length:Nat):Int)),(112,.sl μ0.nl (μ0.l.map Sn.D) (zsl μ0.nl 2) none),(111,I 0),(110,.sl true [] 0 none),(77,B false),(76,I ((μ0.l.length:Nat):Int)),(75,.sl μ0.nl (μ0.l.map Sn.D) (zsl μ0.nl 2) none),(74,I ((μ0.l.length:Nat):Int)),(1,I μ1),(5,.lref ν0 0 2 0),(8,.sl μ0.nl (μ0.l.map Sn.D) (zsl μ0.nl 2) none),(9,.sl true [] 0 none),(10,I μ2),(11,I ((μ0.l.length:Nat):Int))],[(ν0,⟨[.agg [I μ3.lo,I μ3.hi]],2,false⟩)],ν1,ν0⟩

def sd45054 (ν0 ν1:Nat) (μ0:Sn) (μ1:Int) (μ2:Int) (μ3:GS Sn):St:=⟨121,[(70,B false),(69,I μ0.hi),(68,.lref ν0 0 2 1),(67,I μ1),(1,I μ2),(5,.lref ν0 0 2 0),(8,.sl μ3.nl (μ3.l.map Sn.D) (zsl μ3.nl 2) none),(9,.sl true [] 0 none),(10,I μ1)],[(ν0,⟨[.agg [I μ0.lo,I μ0.hi]],2,false⟩)],ν1,ν0⟩

def sd45050 (ν0 ν1 ν2:Nat) (μ0:Int) (μ1:GS Sn) (μ2:List Sn) (μ3:Int) (μ4:Sn):St:=⟨121,[(1,I μ0),(5,.lref ν0 0 2 0),(8,.sl μ1.nl (μ1.l.map Sn.D) (zsl μ1.nl 2) none),(9,.lsl ν1 0 μ2.length 2 none),(10,I μ3),(11,I 0)],[(ν0,⟨[.agg [I μ4.lo,I μ4.hi]],2,false⟩),(ν1,⟨μ2.map Sn.D,2,false⟩)],ν2,ν0⟩

noncomputable def lp23_12:Code:=subC [1,1,1,1,1,1,1,0,1,0,0] (bodyC Tryz.f23)

def sd45049 (ν0 ν1 ν2:Nat) (μ0:Sn) (μ1:Int) (μ2:Int) (μ3:GS Sn) (μ4:List Sn):St:=⟨121,[(11,I 0),(70,B true),(69,I μ0.hi),(68,.lref ν0 0 2 1),(67,I μ1),(1,I μ2),(5,.lref ν0 0 2 0),(8,.sl μ3.nl (μ3.l.map Sn.D) (zsl μ3.nl 2) none),(9,.lsl ν1 0 μ4.length 2 none),(10,I μ1)],[(ν0,⟨[.agg [I μ0.lo,I μ0.hi]],2,false⟩),(ν1,⟨μ4.map Sn.D,2,false⟩)],ν2,ν0⟩

def sd45055 (ν0 ν1 ν2:Nat) (μ0:Int) (μ1:Int) (μ2:GS Sn) (μ3:List Sn) (μ4:Sn):St:=⟨121,[(10,I (w64 (μ0+μ1))),(73,I (w64 (μ0+μ1))),(72,I μ1),(71,I μ0),(115,B false),(114,I (w64 (128+((μ2.l.length:Nat):Int)))),(113,I ((μ2.l.length:Nat):Int)),(112,.sl μ2.nl (μ2.l.map Sn.D) (zsl μ2.nl 2) none),(111,I ((μ3.length:Nat):Int)),(110,.lsl ν0 0 μ3.length 2 none),(77,B false),(76,I ((μ2.l.length:Nat):Int)),(75,.sl μ2.nl (μ2.l.map Sn.D) (zsl μ2.nl 2) none),(74,I ((μ2.l.length:Nat):Int)),(1,I μ1),(5,.lref ν1 0 2 0),(8,.sl μ2.nl (μ2.l.map Sn.D) (zsl μ2.nl 2) none),(9,.lsl ν0 0 μ3.length 2 none),(10,I μ0),(11,I ((μ2.l.length:Nat):Int))],[(ν1,⟨[.agg [I μ4.lo,I μ4.hi]],2,false⟩),(ν0,⟨μ3.map Sn.D,2,false⟩)],ν2,ν1⟩

inductive LR_r_Turns_12 where
 | x0 (yE:Int) (yN:List Sn)
 | x1 (yD:List Sn) (yE:Int)
 | x2 (yK:Int) (yx:List Sn)
 | x3 (yK:Int)
 | x4 (yK:Int)
 | out
instance:Inhabited LR_r_Turns_12:=⟨.out⟩
def r_Turns_12a (n:Int) (within:Sn) (yA:GS Sn):Nat→(List Sn)→Int→LR_r_Turns_12
 | 0,_,_=>.out
 | xq+1,yD,yE =>
  bif decide (yE≤within.hi) then
   match r_Turns_15 within yE yA.l yD with
   | .x0 yN =>
    bif decide (((yN.length:Nat):Int) > (w64 (128+((yA.l.length:Nat):Int)))) then
     .x0 yE yN
    else
     r_Turns_12a n within yA xq yN (w64 (yE+n))
  else
   .x1 yD yE
def y5 (n:Int) (within:Sn) (yA:GS Sn):Nat→Int→LR_r_Turns_12
 | 0,_=>.out
 | xq+1,yK =>
  bif decide (yK≤within.hi) then
   match r_Turns_15p1 within yK yA.l with
   | .x0 yx =>
    bif decide (((yx.length:Nat):Int) > (w64 (128+((yA.l.length:Nat):Int)))) then
     .x2 yK yx
    else
     r_Turns_12a n within yA xq yx (w64 (yK+n))
   | .x1 =>
    bif decide (0 > (w64 (128+((yA.l.length:Nat):Int)))) then
     .x3 yK
    else
     y5 n within yA xq (w64 (yK+n))
  else
   .x4 yK
def lr_r_Turns_12 (n:Int) (within:Sn) (yA:GS Sn):LR_r_Turns_12→Exit × St
 | .x0 yE yN=>((.exit 0),(sd45051 1 0 2 yA yN n yE within))
 | .x1 yD yE=>((.exit 0),(sd45052 0 1 2 within yE n yA yD))
 | .x2 yK yx=>((.exit 0),(sd45051 1 0 2 yA yx n yK within))
 | .x3 yK=>((.exit 0),(sd45053 0 1 yA n yK within))
 | .x4 yK=>((.exit 0),(sd45054 0 1 within yK n yA))
 | .out=>(.normal,⟨0,[],[],0,0⟩)
def iv_r_Turns_12 (n:Int) (within:Sn) (yA:GS Sn):LR_r_Turns_12→Prop
 | .x0 yE yN=>(-1099511637777≤yE∧yE≤within.hi+n∧within.hi≤1099511627776)
 | .x1 yD yE=>(-1099511637777≤yE∧yE≤within.hi+n∧within.hi≤1099511627776)∧(yD.length≤128+yA.l.length)
 | .x2 yK yx=>(-1099511637777≤yK∧yK≤within.hi+n∧within.hi≤1099511627776)
 | .x3 yK=>(-1099511637777≤yK∧yK≤within.hi+n∧within.hi≤1099511627776)
 | .x4 yK=>(-1099511637777≤yK∧yK≤within.hi+n∧within.hi≤1099511627776)
 | .out=>True
def r_Turns_12a_f_o1 (n:Int) (within:Sn) (yA:GS Sn) (yD:List Sn) (yE:Int) (yN:List Sn):List Ora:=[.dec true,.gloop (sd45050 0 1 2 n yA yD yE within) (.exit 2) (sd45045 0 1 2 yA n yN yE within),.rw 113 (I ((yA.l.length:Nat):Int))]
theorem lp_r_Turns_12a (n:Int) (within:Sn) (yA:GS Sn):∀ (xq:Nat) (yD:List Sn) (yE:Int) (xJ:r_Turns_12a n within yA xq yD yE ≠ .out) (hn:1≤n∧n≤10000) (hl:yA.l.length≤128) (hb1:-1099511637777≤yE∧yE≤within.hi+n∧within.hi≤1099511627776) (hw1:yD.length≤128+yA.l.length),(lim cfg).loop 23 lp23_12 ⟨121,[(1,I n),(5,.lref 0 0 2 0),(8,.sl yA.nl (yA.l.map Sn.D) (zsl yA.nl 2) none),(9,.lsl 1 0 yD.length 2 none),(10,I yE)],[(0,⟨[.agg [I within.lo,I within.hi]],2,false⟩),(1,⟨yD.map Sn.D,2,false⟩)],2,0⟩=some (lr_r_Turns_12 n within yA (r_Turns_12a n within yA xq yD yE)):=by
 intro xq
 induction xq with
 | zero =>
  intro yD yE xJ hn hl hb1 hw1
  exact absurd rfl xJ
 | succ xq ih =>
  intro yD yE xJ hn hl hb1 hw1
  unfold r_Turns_12a at xJ ⊢
  revert xJ
  cases h23:decide (yE≤within.hi) with
  | true =>
   have g23:=of_decide_eq_true h23
   have p1:=(gc_of (C:=cfg) (f:=23) (a:=lp23_15) (ks:=[1,5,8,9,10,11]) (st:=(sd45049 0 1 2 within yE n yA yD)) (st1:=(sd45050 0 1 2 n yA yD yE within)) (by kernel_rfl) (by (simp only [sd45049,sd45050,go_sem,List.length_set,Nat.reduceAdd,Nat.reduceEqDiff,Nat.reduceLT,Nat.reduceLeDiff,bI2,z8.idsL,z8.renL,z8.snapAll,z6.idsL,z6.renL,z6.snapAll]) <;> rfl))
   cases h26:r_Turns_15 within yE yA.l yD with
   | x0 yN =>
    try dsimp only
    have hv_h26:=ivt_r_Turns_15 n within yA yE yA.l 0 yD (List.drop_zero) (Nat.zero_le _) (by omega) (by omega) (by omega) (by omega) (by omega)
    rw [h26] at hv_h26
    have hv_h26_0:=hv_h26
    try dsimp only [iv_r_Turns_15] at hv_h26_0
    have p2:=(zZ (q:=lr_r_Turns_15 n within yA yE) (lp_r_Turns_15 n within yA yE yA.l 0 yD (List.drop_zero) (Nat.zero_le _) (by omega) (by omega) (by omega) (by omega) (by omega)) h26)
    cases h27:decide (((yN.length:Nat):Int) > (w64 (128+((yA.l.length:Nat):Int)))) with
    | true =>
     have g27:=of_decide_eq_true h27
     intro xJ
     exact zF ((r_Turns_12a_f_o1 n within yA yD yE yN)++[.dec true]) (Ai h27 (Ai (zj Sn.D yA) (Ai p2 (Ai p1 (Ai h23 trivial))))) (by kernel_rfl)
    | false =>
     have g27:=of_decide_eq_false h27
     intro xJ
     exact zv (ks:=[1,5,8,9,10]) (st':=(sd45055 1 0 2 yE n yA yN within)) ((r_Turns_12a_f_o1 n within yA yD yE yN)++[.dec false]) (Ai h27 (Ai (zj Sn.D yA) (Ai p2 (Ai p1 (Ai h23 trivial))))) (by kernel_rfl) (by (simp only [sd45055,go_sem,List.length_set,Nat.reduceAdd,Nat.reduceEqDiff,Nat.reduceLT,Nat.reduceLeDiff,bI2,z8.idsL,z8.renL,z8.snapAll,z6.idsL,z6.renL,z6.snapAll]) <;> rfl) (ih yN (w64 (yE+n)) xJ (by omega) (by omega) (by simp only [List.length_append,List.length_cons,List.length_nil,zi] at * <;> omega) (by simp only [List.length_append,List.length_cons,List.length_nil,zi] at * <;> omega)) (by kernel_rfl)
  | false =>
   have g23:=of_decide_eq_false h23
   intro xJ
   exact zF [.dec false] (Ai h23 trivial) (by kernel_rfl)
theorem ivt_r_Turns_12a (n:Int) (within:Sn) (yA:GS Sn):∀ (xq:Nat) (yD:List Sn) (yE:Int) (xJ:r_Turns_12a n within yA xq yD yE ≠ .out) (hn:1≤n∧n≤10000) (hl:yA.l.length≤128) (hb1:-1099511637777≤yE∧yE≤within.hi+n∧within.hi≤1099511627776) (hw1:yD.length≤128+yA.l.length),iv_r_Turns_12 n within yA (r_Turns_12a n within yA xq yD yE):=by
 intro xq
 induction xq with
 | zero =>
  intro yD yE xJ hn hl hb1 hw1
  exact absurd rfl xJ
 | succ xq ih =>
  intro yD yE xJ hn hl hb1 hw1
  unfold r_Turns_12a at xJ ⊢
  revert xJ
  cases h23:decide (yE≤within.hi) with
  | true =>
   have g23:=of_decide_eq_true h23
   cases h26:r_Turns_15 within yE yA.l yD with
   | x0 yN =>
    try dsimp only
    have hv_h26:=ivt_r_Turns_15 n within yA yE yA.l 0 yD (List.drop_zero) (Nat.zero_le _) (by omega) (by omega) (by omega) (by omega) (by omega)
    rw [h26] at hv_h26
    have hv_h26_0:=hv_h26
    try dsimp only [iv_r_Turns_15] at hv_h26_0
    cases h27:decide (((yN.length:Nat):Int) > (w64 (128+((yA.l.length:Nat):Int)))) with
    | true =>
     have g27:=of_decide_eq_true h27
     intro xJ
     exact hb1
    | false =>
     have g27:=of_decide_eq_false h27
     intro xJ
     exact ih yN (w64 (yE+n)) xJ (by omega) (by omega) (by simp only [List.length_append,List.length_cons,List.length_nil,zi] at * <;> omega) (by simp only [List.length_append,List.length_cons,List.length_nil,zi] at * <;> omega)
  | false =>
   have g23:=of_decide_eq_false h23
   intro xJ
   exact ⟨hb1,hw1⟩
theorem lp_r_Turns_12 (n:Int) (within:Sn) (yA:GS Sn):∀ (xq:Nat) (yK:Int) (xJ:y5 n within yA xq yK ≠ .out) (hn:1≤n∧n≤10000) (hl:yA.l.length≤128) (hb0:-1099511637777≤yK∧yK≤within.hi+n∧within.hi≤1099511627776),(lim cfg).loop 23 lp23_12 ⟨121,[(1,I n),(5,.lref 0 0 2 0),(8,.sl yA.nl (yA.l.map Sn.D) (zsl yA.nl 2) none),(9,.sl true [] 0 none),(10,I yK)],[(0,⟨[.agg [I within.lo,I within.hi]],2,false⟩)],1,0⟩=some (lr_r_Turns_12 n within yA (y5 n within yA xq yK)):=by
 intro xq
 induction xq with
 | zero =>
  intro yK xJ hn hl hb0
  exact absurd rfl xJ
 | succ xq ih =>
  intro yK xJ hn hl hb0
  unfold y5 at xJ ⊢
  revert xJ
  cases h28:decide (yK≤within.hi) with
  | true =>
   have g28:=of_decide_eq_true h28
   cases h33:r_Turns_15p1 within yK yA.l with
   | x0 yx =>
    try dsimp only
    have hv_h33:=ivt_r_Turns_15p1 n within yA yK yA.l 0 (List.drop_zero) (Nat.zero_le _) (by omega) (by omega) (by omega) (by omega)
    rw [h33] at hv_h33
    have hv_h33_0:=hv_h33
    try dsimp only [iv_r_Turns_15p1] at hv_h33_0
    have p1:=(zZ (q:=lr_r_Turns_15p1 n within yA yK) (lp_r_Turns_15p1 n within yA yK yA.l 0 (List.drop_zero) (Nat.zero_le _) (by omega) (by omega) (by omega) (by omega)) h33)
    cases h34:decide (((yx.length:Nat):Int) > (w64 (128+((yA.l.length:Nat):Int)))) with
    | true =>
     have g34:=of_decide_eq_true h34
     intro xJ
     exact zF [.dec true,.loop (.exit 2) (sd45045 0 1 2 yA n yx yK within),.rw 113 (I ((yA.l.length:Nat):Int)),.dec true] (Ai h34 (Ai (zj Sn.D yA) (Ai p1 (Ai h28 trivial)))) (by kernel_rfl)
    | false =>
     have g34:=of_decide_eq_false h34
     intro xJ
     exact zv (ks:=[1,5,8,9,10]) (st':=(sd45055 1 0 2 yK n yA yx within)) [.dec true,.loop (.exit 2) (sd45045 0 1 2 yA n yx yK within),.rw 113 (I ((yA.l.length:Nat):Int)),.dec false] (Ai h34 (Ai (zj Sn.D yA) (Ai p1 (Ai h28 trivial)))) (by kernel_rfl) (by (simp only [sd45055,go_sem,List.length_set,Nat.reduceAdd,Nat.reduceEqDiff,Nat.reduceLT,Nat.reduceLeDiff,bI2,z8.idsL,z8.renL,z8.snapAll,z6.idsL,z6.renL,z6.snapAll]) <;> rfl) (lp_r_Turns_12a n within yA _ yx (w64 (yK+n)) xJ (by omega) (by omega) (by simp only [List.length_append,List.length_cons,List.length_nil,zi] at * <;> omega) (by simp only [List.length_append,List.length_cons,List.length_nil,zi] at * <;> omega)) (by kernel_rfl)
   | x1 =>
    try dsimp only
    have p2:=(zZ (q:=lr_r_Turns_15p1 n within yA yK) (lp_r_Turns_15p1 n within yA yK yA.l 0 (List.drop_zero) (Nat.zero_le _) (by omega) (by omega) (by omega) (by omega)) h33)
    cases h35:decide (0 > (w64 (128+((yA.l.length:Nat):Int)))) with
    | true =>
     have g35:=of_decide_eq_true h35
     intro xJ
     exact zF [.dec true,.loop (.exit 2) (sd45046 0 1 yA n yK within),.rw 113 (I ((yA.l.length:Nat):Int)),.dec true] (Ai h35 (Ai (zj Sn.D yA) (Ai p2 (Ai h28 trivial)))) (by kernel_rfl)
    | false =>
     have g35:=of_decide_eq_false h35
     intro xJ
     exact po_turn [.dec true,.loop (.exit 2) (sd45046 0 1 yA n yK within),.rw 113 (I ((yA.l.length:Nat):Int)),.dec false] (Ai h35 (Ai (zj Sn.D yA) (Ai p2 (Ai h28 trivial)))) (ih (w64 (yK+n)) xJ (by omega) (by omega) (by simp only [List.length_append,List.length_cons,List.length_nil,zi] at * <;> omega)) (by kernel_rfl)
  | false =>
   have g28:=of_decide_eq_false h28
   intro xJ
   exact zF [.dec false] (Ai h28 trivial) (by kernel_rfl)
theorem ivt_r_Turns_12 (n:Int) (within:Sn) (yA:GS Sn):∀ (xq:Nat) (yK:Int) (xJ:y5 n within yA xq yK ≠ .out) (hn:1≤n∧n≤10000) (hl:yA.l.length≤128) (hb0:-1099511637777≤yK∧yK≤within.hi+n∧within.hi≤1099511627776),iv_r_Turns_12 n within yA (y5 n within yA xq yK):=by
 intro xq
 induction xq with
 | zero =>
  intro yK xJ hn hl hb0
  exact absurd rfl xJ
 | succ xq ih =>
  intro yK xJ hn hl hb0
  unfold y5 at xJ ⊢
  revert xJ
  cases h28:decide (yK≤within.hi) with
  | true =>
   have g28:=of_decide_eq_true h28
   cases h33:r_Turns_15p1 within yK yA.l with
   | x0 yx =>
    try dsimp only
    have hv_h33:=ivt_r_Turns_15p1 n within yA yK yA.l 0 (List.drop_zero) (Nat.zero_le _) (by omega) (by omega) (by omega) (by omega)
    rw [h33] at hv_h33
    have hv_h33_0:=hv_h33
    try dsimp only [iv_r_Turns_15p1] at hv_h33_0
    cases h34:decide (((yx.length:Nat):Int) > (w64 (128+((yA.l.length:Nat):Int)))) with
    | true =>
     have g34:=of_decide_eq_true h34
     intro xJ
     exact hb0
    | false =>
     have g34:=of_decide_eq_false h34
     intro xJ
     exact ivt_r_Turns_12a n within yA _ yx (w64 (yK+n)) xJ (by omega) (by omega) (by simp only [List.length_append,List.length_cons,List.length_nil,zi] at * <;> omega) (by simp only [List.length_append,List.length_cons,List.length_nil,zi] at * <;> omega)
   | x1 =>
    try dsimp only
    cases h35:decide (0 > (w64 (128+((yA.l.length:Nat):Int)))) with
    | true =>
     have g35:=of_decide_eq_true h35
     intro xJ
     exact hb0
    | false =>
     have g35:=of_decide_eq_false h35
     intro xJ
     exact ih (w64 (yK+n)) xJ (by omega) (by omega) (by simp only [List.length_append,List.length_cons,List.length_nil,zi] at * <;> omega)
  | false =>
   have g28:=of_decide_eq_false h28
   intro xJ
   exact hb0

def tnF (within:Sn) (v:Int) (x:Sn):List Sn:=someS (max (w64 (v+x.lo)) within.lo) (min (w64 (v+x.hi)) within.hi)
theorem tnF_eq (within:Sn) (v:Int) (x:Sn):tnF within v x=bif decide ((zu (w64 (v+x.lo)) within.lo)≤(zT (w64 (v+x.hi)) within.hi)) then [(⟨zu (w64 (v+x.lo)) within.lo,zT (w64 (v+x.hi)) within.hi⟩:Sn)] else []:=by
 unfold tnF someS
 rw [imax_eq,imin_eq]
 by_cases h:max (w64 (v+x.lo)) within.lo≤min (w64 (v+x.hi)) within.hi
 ·rw [decide_eq_true h,if_neg (by omega)]; rfl
 ·rw [decide_eq_false h,if_pos (by omega)]; rfl
def tnL (within:Sn) (v:Int) (l:List Sn):List Sn:=l.flatMap (tnF within v)
theorem tnL_len (within:Sn) (v:Int):∀ l:List Sn,(tnL within v l).length≤l.length
 | []=>Nat.le_refl _
 | x::l=>by
  have:=tnL_len within v l
  unfold tnL at this ⊢
  rw [List.flatMap_cons,List.length_append,List.length_cons]
  have:(tnF within v x).length≤1:=some_len
  omega
theorem r_Turns_15_eq (within:Sn) (v:Int):∀ (l w:List Sn),r_Turns_15 within v l w=.x0 (w++tnL within v l)
 | [],w=>by simp [r_Turns_15,tnL]
 | x::l,w=>by
  unfold r_Turns_15 tnL
  rw [List.flatMap_cons,tnF_eq]
  cases decide ((zu (w64 (v+x.lo)) within.lo)≤(zT (w64 (v+x.hi)) within.hi)) with
  | true=>simp only [cond_true]; rw [r_Turns_15_eq,List.append_assoc]; rfl
  | false=>simp only [cond_false]; rw [r_Turns_15_eq]; rfl
theorem r_Turns_15p1a_eq (within:Sn) (v:Int):∀ (l w:List Sn),r_Turns_15p1a within v l w=.x0 (w++tnL within v l)
 | [],w=>by simp [r_Turns_15p1a,tnL]
 | x::l,w=>by
  unfold r_Turns_15p1a tnL
  rw [List.flatMap_cons,tnF_eq]
  cases decide ((zu (w64 (v+x.lo)) within.lo)≤(zT (w64 (v+x.hi)) within.hi)) with
  | true=>simp only [cond_true]; rw [r_Turns_15p1a_eq,List.append_assoc]; rfl
  | false=>simp only [cond_false]; rw [r_Turns_15p1a_eq]; rfl
theorem r_Turns_15p1_eq (within:Sn) (v:Int):∀ (l:List Sn),(tnL within v l=[]∧r_Turns_15p1 within v l=.x1) ∨ r_Turns_15p1 within v l=.x0 (tnL within v l)
 | []=>.inl ⟨rfl,rfl⟩
 | x::l=>by
  unfold r_Turns_15p1 tnL
  rw [List.flatMap_cons,tnF_eq]
  cases decide ((zu (w64 (v+x.lo)) within.lo)≤(zT (w64 (v+x.hi)) within.hi)) with
  | true=>right; simp only [cond_true]; rw [r_Turns_15p1a_eq]; rfl
  | false=>exact r_Turns_15p1_eq within v l
theorem r_Turns_12_ne' (n:Int) (within:Sn) (yA:GS Sn) (hn:1≤n∧n≤10000) (hw:within.hi≤1099511627776):∀ (f:Nat) (w:List Sn) (v:Int),-1099511637777≤v→(within.hi+1 - v).toNat < f→r_Turns_12a n within yA f w v ≠ .out
 | 0,w,v,h0,h1=>by intro _; omega
 | f+1,w,v,h0,h1=>by
  unfold r_Turns_12a
  by_cases hc:v≤within.hi
  ·rw [decide_eq_true hc,y7 (n:=v+n) (by omega) (by omega)]
   simp only [cond_true,Bool.cond_eq_ite]
   repeat' split
   all_goals first | (intro z; cases z; done) | exact r_Turns_12_ne' n within yA hn hw f _ _ (by omega) (by omega)
  ·rw [decide_eq_false hc]; intro z; cases z
theorem r_Turns_12_ne'' (n:Int) (within:Sn) (yA:GS Sn) (hn:1≤n∧n≤10000) (hw:within.hi≤1099511627776):∀ (f:Nat) (v:Int),-1099511637777≤v→(within.hi+1 - v).toNat < f→y5 n within yA f v ≠ .out
 | 0,v,h0,h1=>by intro _; omega
 | f+1,v,h0,h1=>by
  unfold y5
  by_cases hc:v≤within.hi
  ·rw [decide_eq_true hc,y7 (n:=v+n) (by omega) (by omega)]
   simp only [cond_true,Bool.cond_eq_ite]
   repeat' split
   all_goals first | (intro z; cases z; done) | exact r_Turns_12_ne' n within yA hn hw f _ _ (by omega) (by omega) | exact r_Turns_12_ne'' n within yA hn hw f _ (by omega) (by omega)
  ·rw [decide_eq_false hc]; intro z; cases z
theorem zU (n:Int) (within:Sn) (yA:GS Sn) (v:Int) (hn:1≤n∧n≤10000) (h:-1099511637777≤v∧v≤within.hi∧within.hi≤1099511627776):y5 n within yA ((within.hi - v).toNat+2) v ≠ .out:=r_Turns_12_ne'' n within yA hn h.2.2 _ _ h.1 (by omega)
def tn_ok:LR_r_Turns_12→Prop
 | .x0 _ w=>w.length≤384
 | .x2 _ w=>w.length≤384
 | _=>True
theorem r_Turns_12a_ok {n:Int} {within:Sn} {q:GS Sn} (hq:q.l.length≤128):∀ (f:Nat) (w:List Sn) (v:Int),w.length≤256→tn_ok (r_Turns_12a n within q f w v)
 | 0,w,v,h=>trivial
 | f+1,w,v,h=>by
  unfold r_Turns_12a
  cases decide (v≤within.hi) with
  | false=>exact trivial
  | true =>
   rw [r_Turns_15_eq]
   have hl:=tnL_len within v q.l
   simp only [cond_true]
   by_cases hc:(((w++tnL within v q.l).length:Nat):Int) > (w64 (128+((q.l.length:Nat):Int)))
   ·rw [decide_eq_true hc]
    simp only [cond_true,tn_ok,List.length_append]; omega
   ·rw [decide_eq_false hc]
    rw [y7 (by omega) (by omega)] at hc
    exact r_Turns_12a_ok hq f _ _ (by omega)
theorem r_Turns_12_ok {n:Int} {within:Sn} {q:GS Sn} (hq:q.l.length≤128):∀ (f:Nat) (v:Int),tn_ok (y5 n within q f v)
 | 0,v=>trivial
 | f+1,v=>by
  unfold y5
  cases decide (v≤within.hi) with
  | false=>exact trivial
  | true =>
   have hl:=tnL_len within v q.l
   simp only [cond_true]
   rcases r_Turns_15p1_eq within v q.l with ⟨_,e⟩ | e <;> rw [e] <;> dsimp only
   ·cases decide (0 > (w64 (128+((q.l.length:Nat):Int)))) with
    | true=>exact trivial
    | false=>exact r_Turns_12_ok hq f _
   ·by_cases hc:(((tnL within v q.l).length:Nat):Int) > (w64 (128+((q.l.length:Nat):Int)))
    ·rw [decide_eq_true hc]
     simp only [cond_true,tn_ok]; omega
    ·rw [decide_eq_false hc]
     exact r_Turns_12a_ok hq f _ _ (by omega)
theorem r_Turns_12_x0 {n:Int} {within:Sn} {q:GS Sn} {f:Nat} {v a:Int} {w:List Sn} (hq:q.l.length≤128) (h:y5 n within q f v=.x0 a w):w.length≤384:=by
 have k:=r_Turns_12_ok (n:=n) (within:=within) hq f v
 rw [h] at k; exact k
theorem r_Turns_12_x2 {n:Int} {within:Sn} {q:GS Sn} {f:Nat} {v a:Int} {w:List Sn} (hq:q.l.length≤128) (h:y5 n within q f v=.x2 a w):w.length≤384:=by
 have k:=r_Turns_12_ok (n:=n) (within:=within) hq f v
 rw [h] at k; exact k

def r_Turns (r:GS Sn) (n:Int) (within:Sn):(GS Sn) × Int :=
 bif (r_Valid r) then
  bif decide (n < 1) then
   (GS.nil,1)
  else
   bif decide (n > 10000) then
    (GS.nil,1)
   else
    bif decide (within.lo < (-1099511627776)) then
     (GS.nil,1)
    else
     bif decide (within.lo > within.hi) then
      (GS.nil,1)
     else
      bif decide (within.hi > 1099511627776) then
       (GS.nil,1)
      else
       bif ((((zf r n).l.length:Nat):Int) == 0) then
        (GS.nil,0)
       else
        bif (((GS.at (zf r n) 0).lo) == 0) then
         bif (((GS.at (zf r n) 0).hi) == (w64 (n - 1))) then
          (GS.some [within],0)
         else
          match y5 n within (zf r n) ((within.hi - (w64 (n * zl within.lo n))).toNat+2) (w64 (n * (zl within.lo n))) with
          | .x0 yE yN =>
           bif (JJ (GS.some yN)).nl then
            (((zw (JJ (GS.some yN))).1),((zw (JJ (GS.some yN))).2))
           else
            (((zw (JJ (GS.some yN))).1),((zw (JJ (GS.some yN))).2))
          | .x1 yD yE =>
           bif (JJ (GS.some yD)).nl then
            (((zw (JJ (GS.some yD))).1),((zw (JJ (GS.some yD))).2))
           else
            (((zw (JJ (GS.some yD))).1),((zw (JJ (GS.some yD))).2))
          | .x2 yK yx =>
           bif (JJ (GS.some yx)).nl then
            (((zw (JJ (GS.some yx))).1),((zw (JJ (GS.some yx))).2))
           else
            (((zw (JJ (GS.some yx))).1),((zw (JJ (GS.some yx))).2))
          | .x3 yK =>
           (((zw (JJ GS.nil)).1),((zw (JJ GS.nil)).2))
          | .x4 yK =>
           (((zw (JJ GS.nil)).1),((zw (JJ GS.nil)).2))
          | .out =>
           default
        else
         match y5 n within (zf r n) ((within.hi - (w64 (n * zl within.lo n))).toNat+2) (w64 (n * (zl within.lo n))) with
         | .x0 yE yN =>
          bif (JJ (GS.some yN)).nl then
           (((zw (JJ (GS.some yN))).1),((zw (JJ (GS.some yN))).2))
          else
           (((zw (JJ (GS.some yN))).1),((zw (JJ (GS.some yN))).2))
         | .x1 yD yE =>
          bif (JJ (GS.some yD)).nl then
           (((zw (JJ (GS.some yD))).1),((zw (JJ (GS.some yD))).2))
          else
           (((zw (JJ (GS.some yD))).1),((zw (JJ (GS.some yD))).2))
         | .x2 yK yx =>
          bif (JJ (GS.some yx)).nl then
           (((zw (JJ (GS.some yx))).1),((zw (JJ (GS.some yx))).2))
          else
           (((zw (JJ (GS.some yx))).1),((zw (JJ (GS.some yx))).2))
         | .x3 yK =>
          (((zw (JJ GS.nil)).1),((zw (JJ GS.nil)).2))
         | .x4 yK =>
          (((zw (JJ GS.nil)).1),((zw (JJ GS.nil)).2))
         | .out =>
          default
 else
  (GS.nil,20)

def r_Turns_o1 (r:GS Sn) (n:Int):List Ora:=[.pure (B (r_Valid r)),.dec true,.dec false,.dec false,.dec false,.dec false,.dec false,.pure (.sl ((zf r n).nl) (((zf r n).l).map Sn.D) (zsl ((zf r n).nl) 2) none),.rw 43 (I (((zf r n).l.length:Nat):Int))]

def r_Turns_o2 (r:GS Sn) (n:Int):List Ora:=[.dec false,.el (.agg [I ((GS.at (zf r n) 0).lo),I ((GS.at (zf r n) 0).hi)]),.dec true,.el (.agg [I ((GS.at (zf r n) 0).lo),I ((GS.at (zf r n) 0).hi)])]

def r_Turns_o3 (r:GS Sn) (n:Int) (within:Sn):List Ora:=[.dec false,.el (.agg [I ((GS.at (zf r n) 0).lo),I ((GS.at (zf r n) 0).hi)]),.dec false,.pure (I (zl within.lo n))]

def sd45056 (ν0 ν1 ν2:Nat) (μ0:GS Sn) (μ1:Int) (μ2:List Sn) (μ3:Int) (μ4:Sn):St:=⟨121,[(115,B true),(114,I (w64 (128+(((zf μ0 μ1).l.length:Nat):Int)))),(113,I (((zf μ0 μ1).l.length:Nat):Int)),(112,.sl ((zf μ0 μ1).nl) (((zf μ0 μ1).l).map Sn.D) (zsl ((zf μ0 μ1).nl) 2) none),(111,I ((μ2.length:Nat):Int)),(110,.lsl ν0 0 μ2.length 2 none),(77,B false),(76,I (((zf μ0 μ1).l.length:Nat):Int)),(75,.sl ((zf μ0 μ1).nl) (((zf μ0 μ1).l).map Sn.D) (zsl ((zf μ0 μ1).nl) 2) none),(74,I (((zf μ0 μ1).l.length:Nat):Int)),(1,I μ1),(5,.lref ν1 0 2 0),(8,.sl ((zf μ0 μ1).nl) (((zf μ0 μ1).l).map Sn.D) (zsl ((zf μ0 μ1).nl) 2) none),(9,.lsl ν0 0 μ2.length 2 none),(10,I μ3),(11,I (((zf μ0 μ1).l.length:Nat):Int))],[(ν1,⟨[.agg [I μ4.lo,I μ4.hi]],2,false⟩),(ν0,⟨μ2.map Sn.D,2,false⟩)],ν2,ν1⟩

def sd45057 (ν0 ν1 ν2:Nat) (μ0:Sn) (μ1:Int) (μ2:Int) (μ3:GS Sn) (μ4:List Sn):St:=⟨121,[(70,B false),(69,I μ0.hi),(68,.lref ν0 0 2 1),(67,I μ1),(1,I μ2),(5,.lref ν0 0 2 0),(8,.sl ((zf μ3 μ2).nl) (((zf μ3 μ2).l).map Sn.D) (zsl ((zf μ3 μ2).nl) 2) none),(9,.lsl ν1 0 μ4.length 2 none),(10,I μ1)],[(ν0,⟨[.agg [I μ0.lo,I μ0.hi]],2,false⟩),(ν1,⟨μ4.map Sn.D,2,false⟩)],ν2,ν0⟩

def sd45058 (ν0 ν1:Nat) (μ0:GS Sn) (μ1:Int) (μ2:Int) (μ3:Sn):St:=⟨121,[(115,B true),(114,I (w64 (128+(((zf μ0 μ1).l.length:Nat):Int)))),(113,I (((zf μ0 μ1).l.length:Nat):Int)),(112,.sl ((zf μ0 μ1).nl) (((zf μ0 μ1).l).map Sn.D) (zsl ((zf μ0 μ1).nl) 2) none),(111,I 0),(110,.sl true [] 0 none),(77,B false),(76,I (((zf μ0 μ1).l.length:Nat):Int)),(75,.sl ((zf μ0 μ1).nl) (((zf μ0 μ1).l).map Sn.D) (zsl ((zf μ0 μ1).nl) 2) none),(74,I (((zf μ0 μ1).l.length:Nat):Int)),(1,I μ1),(5,.lref ν0 0 2 0),(8,.sl ((zf μ0 μ1).nl) (((zf μ0 μ1).l).map Sn.D) (zsl ((zf μ0 μ1).nl) 2) none),(9,.sl true [] 0 none),(10,I μ2),(11,I (((zf μ0 μ1).l.length:Nat):Int))],[(ν0,⟨[.agg [I μ3.lo,I μ3.hi]],2,false⟩)],ν1,ν0⟩

def sd45059 (ν0 ν1:Nat) (μ0:Sn) (μ1:Int) (μ2:Int) (μ3:GS Sn):St:=⟨121,[(70,B false),(69,I μ0.hi),(68,.lref ν0 0 2 1),(67,I μ1),(1,I μ2),(5,.lref ν0 0 2 0),(8,.sl ((zf μ3 μ2).nl) (((zf μ3 μ2).l).map Sn.D) (zsl ((zf μ3 μ2).nl) 2) none),(9,.sl true [] 0 none),(10,I μ1)],[(ν0,⟨[.agg [I μ0.lo,I μ0.hi]],2,false⟩)],ν1,ν0⟩

theorem T_r_Turns (r:GS Sn) (n:Int) (within:Sn) (hLr:r.l.length≤9223372036854775807):(lim cfg).pure 23 [GS.D Sn.D 2 r,I n,Sn.D within]=some (.tup [GS.D Sn.D 2 ((r_Turns r n within).1),I ((r_Turns r n within).2)]):=by
 unfold r_Turns
 cases h1:(r_Valid r) with
 | true =>
  have g1:=valid_len h1
  cases h2:decide (n < 1) with
  | true =>
   have g2:=of_decide_eq_true h2
   exact zk [.pure (B (r_Valid r)),.dec true,.dec true] (Ai h2 (Ai h1 (Ai (yj r (by omega)) trivial))) (by kernel_rfl)
  | false =>
   have g2:=of_decide_eq_false h2
   cases h3:decide (n > 10000) with
   | true =>
    have g3:=of_decide_eq_true h3
    exact zk [.pure (B (r_Valid r)),.dec true,.dec false,.dec true] (Ai h3 (Ai h2 (Ai h1 (Ai (yj r (by omega)) trivial)))) (by kernel_rfl)
   | false =>
    obtain ⟨hn,hq⟩:=turns_n r n (by assumption) (by assumption) h3
    cases h4:decide (within.lo < (-1099511627776)) with
    | true =>
     have g4:=of_decide_eq_true h4
     exact zk [.pure (B (r_Valid r)),.dec true,.dec false,.dec false,.dec true] (Ai h4 (Ai h3 (Ai h2 (Ai h1 (Ai (yj r (by omega)) trivial))))) (by kernel_rfl)
    | false =>
     have g4:=of_decide_eq_false h4
     cases h5:decide (within.lo > within.hi) with
     | true =>
      have g5:=of_decide_eq_true h5
      exact zk [.pure (B (r_Valid r)),.dec true,.dec false,.dec false,.dec false,.dec true] (Ai h5 (Ai h4 (Ai h3 (Ai h2 (Ai h1 (Ai (yj r (by omega)) trivial)))))) (by kernel_rfl)
     | false =>
      have g5:=of_decide_eq_false h5
      cases h6:decide (within.hi > 1099511627776) with
      | true =>
       have g6:=of_decide_eq_true h6
       exact zk [.pure (B (r_Valid r)),.dec true,.dec false,.dec false,.dec false,.dec false,.dec true] (Ai h6 (Ai h5 (Ai h4 (Ai h3 (Ai h2 (Ai h1 (Ai (yj r (by omega)) trivial))))))) (by kernel_rfl)
      | false =>
       have hb0:=turns_base hn (by assumption) (by assumption) (of_decide_eq_false h6)
       have p1:=(T_r_Rests r n (by omega) (by omega))
       cases h7:((((zf r n).l.length:Nat):Int) == 0) with
       | true =>
        have g7:=eq_of_beq h7
        exact zk ((r_Turns_o1 r n)++[.dec true]) (Ai h7 (Ai (zj Sn.D (zf r n)) (Ai p1 (Ai h6 (Ai h5 (Ai h4 (Ai h3 (Ai h2 (Ai h1 (Ai (yj r (by omega)) trivial)))))))))) (by kernel_rfl)
       | false =>
        have g7:=ne_of_beq_false h7
        have p2:=(el_in (s:=(zf r n)) (f:=Sn.D) (k:=2) (i:=0) (by omega) (by omega))
        cases h8:(((GS.at (zf r n) 0).lo) == 0) with
        | true =>
         have g8:=eq_of_beq h8
         have p3:=(el_in (s:=(zf r n)) (f:=Sn.D) (k:=2) (i:=0) (by omega) (by omega))
         cases h9:(((GS.at (zf r n) 0).hi) == (w64 (n - 1))) with
         | true =>
          have g9:=eq_of_beq h9
          exact zk ((r_Turns_o1 r n)++((r_Turns_o2 r n)++[.dec true])) (Ai h9 (Ai p3 (Ai h8 (Ai p2 (Ai h7 (Ai (zj Sn.D (zf r n)) (Ai p1 (Ai h6 (Ai h5 (Ai h4 (Ai h3 (Ai h2 (Ai h1 (Ai (yj r (by omega)) trivial)))))))))))))) (by kernel_rfl)
         | false =>
          have g9:=ne_of_beq_false h9
          cases h36:y5 n within (zf r n) ((within.hi - (w64 (n * zl within.lo n))).toNat+2) (w64 (n * (zl within.lo n))) with
          | x0 yE yN =>
           try dsimp only
           have xN:=ivt_r_Turns_12 n within (zf r n) ((within.hi - (w64 (n * zl within.lo n))).toNat+2) (w64 (n * (zl within.lo n))) (zU _ _ _ _ hn (by omega)) (by omega) (by omega) (by omega)
           rw [h36] at xN
           have xF:=xN
           try dsimp only [iv_r_Turns_12] at xF
           have hbw:=r_Turns_12_x0 hq (by assumption)
           have p4:=(zZ (q:=lr_r_Turns_12 n within (zf r n)) (lp_r_Turns_12 n within (zf r n) ((within.hi - (w64 (n * zl within.lo n))).toNat+2) (w64 (n * (zl within.lo n))) (zU _ _ _ _ hn (by omega)) (by omega) (by omega) (by omega)) h36)
           cases h37:(JJ (GS.some yN)).nl with
           | true =>
            exact zk ((r_Turns_o1 r n)++((r_Turns_o2 r n)++[.dec false,.pure (I (zl within.lo n)),.loop (.exit 0) (sd45056 1 0 2 r n yN yE within),.pureS (.sl ((JJ (GS.some yN)).nl) (((JJ (GS.some yN)).l).map Sn.D) (zsl ((JJ (GS.some yN)).nl) 2) none) true [(1,.sl false (yN.map Sn.D) 2 none,[1])],.pure (.tup [.sl (((zw (JJ (GS.some yN))).1).nl) ((((zw (JJ (GS.some yN))).1).l).map Sn.D) (zsl (((zw (JJ (GS.some yN))).1).nl) 2) none,I ((zw (JJ (GS.some yN))).2)])])) (Ai (T_r_Fit (JJ (GS.some yN))) (Ai (Ai (show flat yi (.sl ((JJ (GS.some yN)).nl) (((JJ (GS.some yN)).l).map Sn.D) (zsl ((JJ (GS.some yN)).nl) 2) none)=true from (by rw [h37] <;> kernel_rfl)) (Ai (Ai (snap_row (gO:=zp [(0,⟨[.agg [I within.lo,I within.hi]],2,false⟩),(1,⟨yN.map Sn.D,2,false⟩)]) (o:=1) (len:=yN.length) (cap:=none) (fz:=false) z6 yN (by kernel_rfl) (by omega)) trivial) (T_JJ (GS.some yN) (by simp only [zY,zV,GS.some_l,List.length_set,List.length_append,List.length_cons,List.length_nil] at * <;> first | with_reducible assumption | omega)))) (Ai p4 (Ai (T_r_Down within.lo n (by omega)) (Ai h9 (Ai p3 (Ai h8 (Ai p2 (Ai h7 (Ai (zj Sn.D (zf r n)) (Ai p1 (Ai h6 (Ai h5 (Ai h4 (Ai h3 (Ai h2 (Ai h1 (Ai (yj r (by omega)) trivial)))))))))))))))))) (by kernel_rfl)
           | false =>
            exact zk ((r_Turns_o1 r n)++((r_Turns_o2 r n)++[.dec false,.pure (I (zl within.lo n)),.loop (.exit 0) (sd45056 1 0 2 r n yN yE within),.pureS (.sl ((JJ (GS.some yN)).nl) (((JJ (GS.some yN)).l).map Sn.D) (zsl ((JJ (GS.some yN)).nl) 2) none) false [(1,.sl false (yN.map Sn.D) 2 none,[1])],.pure (.tup [.sl (((zw (JJ (GS.some yN))).1).nl) ((((zw (JJ (GS.some yN))).1).l).map Sn.D) (zsl (((zw (JJ (GS.some yN))).1).nl) 2) none,I ((zw (JJ (GS.some yN))).2)])])) (Ai (T_r_Fit (JJ (GS.some yN))) (Ai (Ai (show flat yi (.sl ((JJ (GS.some yN)).nl) (((JJ (GS.some yN)).l).map Sn.D) (zsl ((JJ (GS.some yN)).nl) 2) none)=false from (by rw [h37] <;> kernel_rfl)) (Ai (Ai (snap_row (gO:=zp [(0,⟨[.agg [I within.lo,I within.hi]],2,false⟩),(1,⟨yN.map Sn.D,2,false⟩)]) (o:=1) (len:=yN.length) (cap:=none) (fz:=false) z6 yN (by kernel_rfl) (by omega)) trivial) (T_JJ (GS.some yN) (by simp only [zY,zV,GS.some_l,List.length_set,List.length_append,List.length_cons,List.length_nil] at * <;> first | with_reducible assumption | omega)))) (Ai p4 (Ai (T_r_Down within.lo n (by omega)) (Ai h9 (Ai p3 (Ai h8 (Ai p2 (Ai h7 (Ai (zj Sn.D (zf r n)) (Ai p1 (Ai h6 (Ai h5 (Ai h4 (Ai h3 (Ai h2 (Ai h1 (Ai (yj r (by omega)) trivial)))))))))))))))))) (by kernel_rfl)
          | x1 yD yE =>
           try dsimp only
           have xN:=ivt_r_Turns_12 n within (zf r n) ((within.hi - (w64 (n * zl within.lo n))).toNat+2) (w64 (n * (zl within.lo n))) (zU _ _ _ _ hn (by omega)) (by omega) (by omega) (by omega)
           rw [h36] at xN
           obtain ⟨xF,hv_h36_1⟩:=xN
           try dsimp only [iv_r_Turns_12] at xF
           try dsimp only [iv_r_Turns_12] at hv_h36_1
           have p5:=(zZ (q:=lr_r_Turns_12 n within (zf r n)) (lp_r_Turns_12 n within (zf r n) ((within.hi - (w64 (n * zl within.lo n))).toNat+2) (w64 (n * (zl within.lo n))) (zU _ _ _ _ hn (by omega)) (by omega) (by omega) (by omega)) h36)
           cases h38:(JJ (GS.some yD)).nl with
           | true =>
            exact zk ((r_Turns_o1 r n)++((r_Turns_o2 r n)++[.dec false,.pure (I (zl within.lo n)),.loop (.exit 0) (sd45057 0 1 2 within yE n r yD),.pureS (.sl ((JJ (GS.some yD)).nl) (((JJ (GS.some yD)).l).map Sn.D) (zsl ((JJ (GS.some yD)).nl) 2) none) true [(1,.sl false (yD.map Sn.D) 2 none,[1])],.pure (.tup [.sl (((zw (JJ (GS.some yD))).1).nl) ((((zw (JJ (GS.some yD))).1).l).map Sn.D) (zsl (((zw (JJ (GS.some yD))).1).nl) 2) none,I ((zw (JJ (GS.some yD))).2)])])) (Ai (T_r_Fit (JJ (GS.some yD))) (Ai (Ai (show flat yi (.sl ((JJ (GS.some yD)).nl) (((JJ (GS.some yD)).l).map Sn.D) (zsl ((JJ (GS.some yD)).nl) 2) none)=true from (by rw [h38] <;> kernel_rfl)) (Ai (Ai (snap_row (gO:=zp [(0,⟨[.agg [I within.lo,I within.hi]],2,false⟩),(1,⟨yD.map Sn.D,2,false⟩)]) (o:=1) (len:=yD.length) (cap:=none) (fz:=false) z6 yD (by kernel_rfl) (by omega)) trivial) (T_JJ (GS.some yD) (by simp only [zY,zV,GS.some_l,List.length_set,List.length_append,List.length_cons,List.length_nil] at * <;> first | with_reducible assumption | omega)))) (Ai p5 (Ai (T_r_Down within.lo n (by omega)) (Ai h9 (Ai p3 (Ai h8 (Ai p2 (Ai h7 (Ai (zj Sn.D (zf r n)) (Ai p1 (Ai h6 (Ai h5 (Ai h4 (Ai h3 (Ai h2 (Ai h1 (Ai (yj r (by omega)) trivial)))))))))))))))))) (by kernel_rfl)
           | false =>
            exact zk ((r_Turns_o1 r n)++((r_Turns_o2 r n)++[.dec false,.pure (I (zl within.lo n)),.loop (.exit 0) (sd45057 0 1 2 within yE n r yD),.pureS (.sl ((JJ (GS.some yD)).nl) (((JJ (GS.some yD)).l).map Sn.D) (zsl ((JJ (GS.some yD)).nl) 2) none) false [(1,.sl false (yD.map Sn.D) 2 none,[1])],.pure (.tup [.sl (((zw (JJ (GS.some yD))).1).nl) ((((zw (JJ (GS.some yD))).1).l).map Sn.D) (zsl (((zw (JJ (GS.some yD))).1).nl) 2) none,I ((zw (JJ (GS.some yD))).2)])])) (Ai (T_r_Fit (JJ (GS.some yD))) (Ai (Ai (show flat yi (.sl ((JJ (GS.some yD)).nl) (((JJ (GS.some yD)).l).map Sn.D) (zsl ((JJ (GS.some yD)).nl) 2) none)=false from (by rw [h38] <;> kernel_rfl)) (Ai (Ai (snap_row (gO:=zp [(0,⟨[.agg [I within.lo,I within.hi]],2,false⟩),(1,⟨yD.map Sn.D,2,false⟩)]) (o:=1) (len:=yD.length) (cap:=none) (fz:=false) z6 yD (by kernel_rfl) (by omega)) trivial) (T_JJ (GS.some yD) (by simp only [zY,zV,GS.some_l,List.length_set,List.length_append,List.length_cons,List.length_nil] at * <;> first | with_reducible assumption | omega)))) (Ai p5 (Ai (T_r_Down within.lo n (by omega)) (Ai h9 (Ai p3 (Ai h8 (Ai p2 (Ai h7 (Ai (zj Sn.D (zf r n)) (Ai p1 (Ai h6 (Ai h5 (Ai h4 (Ai h3 (Ai h2 (Ai h1 (Ai (yj r (by omega)) trivial)))))))))))))))))) (by kernel_rfl)
          | x2 yK yx =>
           try dsimp only
           have xN:=ivt_r_Turns_12 n within (zf r n) ((within.hi - (w64 (n * zl within.lo n))).toNat+2) (w64 (n * (zl within.lo n))) (zU _ _ _ _ hn (by omega)) (by omega) (by omega) (by omega)
           rw [h36] at xN
           have xF:=xN
           try dsimp only [iv_r_Turns_12] at xF
           have hbw:=r_Turns_12_x2 hq (by assumption)
           have p6:=(zZ (q:=lr_r_Turns_12 n within (zf r n)) (lp_r_Turns_12 n within (zf r n) ((within.hi - (w64 (n * zl within.lo n))).toNat+2) (w64 (n * (zl within.lo n))) (zU _ _ _ _ hn (by omega)) (by omega) (by omega) (by omega)) h36)
           cases h39:(JJ (GS.some yx)).nl with
           | true =>
            exact zk ((r_Turns_o1 r n)++((r_Turns_o2 r n)++[.dec false,.pure (I (zl within.lo n)),.loop (.exit 0) (sd45056 1 0 2 r n yx yK within),.pureS (.sl ((JJ (GS.some yx)).nl) (((JJ (GS.some yx)).l).map Sn.D) (zsl ((JJ (GS.some yx)).nl) 2) none) true [(1,.sl false (yx.map Sn.D) 2 none,[1])],.pure (.tup [.sl (((zw (JJ (GS.some yx))).1).nl) ((((zw (JJ (GS.some yx))).1).l).map Sn.D) (zsl (((zw (JJ (GS.some yx))).1).nl) 2) none,I ((zw (JJ (GS.some yx))).2)])])) (Ai (T_r_Fit (JJ (GS.some yx))) (Ai (Ai (show flat yi (.sl ((JJ (GS.some yx)).nl) (((JJ (GS.some yx)).l).map Sn.D) (zsl ((JJ (GS.some yx)).nl) 2) none)=true from (by rw [h39] <;> kernel_rfl)) (Ai (Ai (snap_row (gO:=zp [(0,⟨[.agg [I within.lo,I within.hi]],2,false⟩),(1,⟨yx.map Sn.D,2,false⟩)]) (o:=1) (len:=yx.length) (cap:=none) (fz:=false) z6 yx (by kernel_rfl) (by omega)) trivial) (T_JJ (GS.some yx) (by simp only [zY,zV,GS.some_l,List.length_set,List.length_append,List.length_cons,List.length_nil] at * <;> first | with_reducible assumption | omega)))) (Ai p6 (Ai (T_r_Down within.lo n (by omega)) (Ai h9 (Ai p3 (Ai h8 (Ai p2 (Ai h7 (Ai (zj Sn.D (zf r n)) (Ai p1 (Ai h6 (Ai h5 (Ai h4 (Ai h3 (Ai h2 (Ai h1 (Ai (yj r (by omega)) trivial)))))))))))))))))) (by kernel_rfl)
           | false =>
            exact zk ((r_Turns_o1 r n)++((r_Turns_o2 r n)++[.dec false,.pure (I (zl within.lo n)),.loop (.exit 0) (sd45056 1 0 2 r n yx yK within),.pureS (.sl ((JJ (GS.some yx)).nl) (((JJ (GS.some yx)).l).map Sn.D) (zsl ((JJ (GS.some yx)).nl) 2) none) false [(1,.sl false (yx.map Sn.D) 2 none,[1])],.pure (.tup [.sl (((zw (JJ (GS.some yx))).1).nl) ((((zw (JJ (GS.some yx))).1).l).map Sn.D) (zsl (((zw (JJ (GS.some yx))).1).nl) 2) none,I ((zw (JJ (GS.some yx))).2)])])) (Ai (T_r_Fit (JJ (GS.some yx))) (Ai (Ai (show flat yi (.sl ((JJ (GS.some yx)).nl) (((JJ (GS.some yx)).l).map Sn.D) (zsl ((JJ (GS.some yx)).nl) 2) none)=false from (by rw [h39] <;> kernel_rfl)) (Ai (Ai (snap_row (gO:=zp [(0,⟨[.agg [I within.lo,I within.hi]],2,false⟩),(1,⟨yx.map Sn.D,2,false⟩)]) (o:=1) (len:=yx.length) (cap:=none) (fz:=false) z6 yx (by kernel_rfl) (by omega)) trivial) (T_JJ (GS.some yx) (by simp only [zY,zV,GS.some_l,List.length_set,List.length_append,List.length_cons,List.length_nil] at * <;> first | with_reducible assumption | omega)))) (Ai p6 (Ai (T_r_Down within.lo n (by omega)) (Ai h9 (Ai p3 (Ai h8 (Ai p2 (Ai h7 (Ai (zj Sn.D (zf r n)) (Ai p1 (Ai h6 (Ai h5 (Ai h4 (Ai h3 (Ai h2 (Ai h1 (Ai (yj r (by omega)) trivial)))))))))))))))))) (by kernel_rfl)
          | x3 yK =>
           try dsimp only
           have xN:=ivt_r_Turns_12 n within (zf r n) ((within.hi - (w64 (n * zl within.lo n))).toNat+2) (w64 (n * (zl within.lo n))) (zU _ _ _ _ hn (by omega)) (by omega) (by omega) (by omega)
           rw [h36] at xN
           have xF:=xN
           try dsimp only [iv_r_Turns_12] at xF
           exact zk ((r_Turns_o1 r n)++((r_Turns_o2 r n)++[.dec false,.pure (I (zl within.lo n)),.loop (.exit 0) (sd45058 0 1 r n yK within),.pure (.sl ((JJ GS.nil).nl) (((JJ GS.nil).l).map Sn.D) (zsl ((JJ GS.nil).nl) 2) none),.pure (.tup [.sl (((zw (JJ GS.nil)).1).nl) ((((zw (JJ GS.nil)).1).l).map Sn.D) (zsl (((zw (JJ GS.nil)).1).nl) 2) none,I ((zw (JJ GS.nil)).2)])])) (Ai (T_r_Fit (JJ GS.nil)) (Ai (T_JJ GS.nil (by simp [GS.nil])) (Ai (zZ (q:=lr_r_Turns_12 n within (zf r n)) (lp_r_Turns_12 n within (zf r n) ((within.hi - (w64 (n * zl within.lo n))).toNat+2) (w64 (n * (zl within.lo n))) (zU _ _ _ _ hn (by omega)) (by omega) (by omega) (by omega)) h36) (Ai (T_r_Down within.lo n (by omega)) (Ai h9 (Ai p3 (Ai h8 (Ai p2 (Ai h7 (Ai (zj Sn.D (zf r n)) (Ai p1 (Ai h6 (Ai h5 (Ai h4 (Ai h3 (Ai h2 (Ai h1 (Ai (yj r (by omega)) trivial)))))))))))))))))) (by kernel_rfl)
          | x4 yK =>
           try dsimp only
           have xN:=ivt_r_Turns_12 n within (zf r n) ((within.hi - (w64 (n * zl within.lo n))).toNat+2) (w64 (n * (zl within.lo n))) (zU _ _ _ _ hn (by omega)) (by omega) (by omega) (by omega)
           rw [h36] at xN
           have xF:=xN
           try dsimp only [iv_r_Turns_12] at xF
           exact zk ((r_Turns_o1 r n)++((r_Turns_o2 r n)++[.dec false,.pure (I (zl within.lo n)),.loop (.exit 0) (sd45059 0 1 within yK n r),.pure (.sl ((JJ GS.nil).nl) (((JJ GS.nil).l).map Sn.D) (zsl ((JJ GS.nil).nl) 2) none),.pure (.tup [.sl (((zw (JJ GS.nil)).1).nl) ((((zw (JJ GS.nil)).1).l).map Sn.D) (zsl (((zw (JJ GS.nil)).1).nl) 2) none,I ((zw (JJ GS.nil)).2)])])) (Ai (T_r_Fit (JJ GS.nil)) (Ai (T_JJ GS.nil (by simp [GS.nil])) (Ai (zZ (q:=lr_r_Turns_12 n within (zf r n)) (lp_r_Turns_12 n within (zf r n) ((within.hi - (w64 (n * zl within.lo n))).toNat+2) (w64 (n * (zl within.lo n))) (zU _ _ _ _ hn (by omega)) (by omega) (by omega) (by omega)) h36) (Ai (T_r_Down within.lo n (by omega)) (Ai h9 (Ai p3 (Ai h8 (Ai p2 (Ai h7 (Ai (zj Sn.D (zf r n)) (Ai p1 (Ai h6 (Ai h5 (Ai h4 (Ai h3 (Ai h2 (Ai h1 (Ai (yj r (by omega)) trivial)))))))))))))))))) (by kernel_rfl)
          | out =>
           exact absurd h36 ((zU _ _ _ _ hn (by omega)))
        | false =>
         have g8:=ne_of_beq_false h8
         cases h40:y5 n within (zf r n) ((within.hi - (w64 (n * zl within.lo n))).toNat+2) (w64 (n * (zl within.lo n))) with
         | x0 yE yN =>
          try dsimp only
          have xO:=ivt_r_Turns_12 n within (zf r n) ((within.hi - (w64 (n * zl within.lo n))).toNat+2) (w64 (n * (zl within.lo n))) (zU _ _ _ _ hn (by omega)) (by omega) (by omega) (by omega)
          rw [h40] at xO
          have xG:=xO
          try dsimp only [iv_r_Turns_12] at xG
          have hbw:=r_Turns_12_x0 hq (by assumption)
          have p7:=(zZ (q:=lr_r_Turns_12 n within (zf r n)) (lp_r_Turns_12 n within (zf r n) ((within.hi - (w64 (n * zl within.lo n))).toNat+2) (w64 (n * (zl within.lo n))) (zU _ _ _ _ hn (by omega)) (by omega) (by omega) (by omega)) h40)
          cases h41:(JJ (GS.some yN)).nl with
          | true =>
           exact zk ((r_Turns_o1 r n)++((r_Turns_o3 r n within)++[.loop (.exit 0) (sd45056 1 0 2 r n yN yE within),.pureS (.sl ((JJ (GS.some yN)).nl) (((JJ (GS.some yN)).l).map Sn.D) (zsl ((JJ (GS.some yN)).nl) 2) none) true [(1,.sl false (yN.map Sn.D) 2 none,[1])],.pure (.tup [.sl (((zw (JJ (GS.some yN))).1).nl) ((((zw (JJ (GS.some yN))).1).l).map Sn.D) (zsl (((zw (JJ (GS.some yN))).1).nl) 2) none,I ((zw (JJ (GS.some yN))).2)])])) (Ai (T_r_Fit (JJ (GS.some yN))) (Ai (Ai (show flat yi (.sl ((JJ (GS.some yN)).nl) (((JJ (GS.some yN)).l).map Sn.D) (zsl ((JJ (GS.some yN)).nl) 2) none)=true from (by rw [h41] <;> kernel_rfl)) (Ai (Ai (snap_row (gO:=zp [(0,⟨[.agg [I within.lo,I within.hi]],2,false⟩),(1,⟨yN.map Sn.D,2,false⟩)]) (o:=1) (len:=yN.length) (cap:=none) (fz:=false) z6 yN (by kernel_rfl) (by omega)) trivial) (T_JJ (GS.some yN) (by simp only [zY,zV,GS.some_l,List.length_set,List.length_append,List.length_cons,List.length_nil] at * <;> first | with_reducible assumption | omega)))) (Ai p7 (Ai (T_r_Down within.lo n (by omega)) (Ai h8 (Ai p2 (Ai h7 (Ai (zj Sn.D (zf r n)) (Ai p1 (Ai h6 (Ai h5 (Ai h4 (Ai h3 (Ai h2 (Ai h1 (Ai (yj r (by omega)) trivial)))))))))))))))) (by kernel_rfl)
          | false =>
           exact zk ((r_Turns_o1 r n)++((r_Turns_o3 r n within)++[.loop (.exit 0) (sd45056 1 0 2 r n yN yE within),.pureS (.sl ((JJ (GS.some yN)).nl) (((JJ (GS.some yN)).l).map Sn.D) (zsl ((JJ (GS.some yN)).nl) 2) none) false [(1,.sl false (yN.map Sn.D) 2 none,[1])],.pure (.tup [.sl (((zw (JJ (GS.some yN))).1).nl) ((((zw (JJ (GS.some yN))).1).l).map Sn.D) (zsl (((zw (JJ (GS.some yN))).1).nl) 2) none,I ((zw (JJ (GS.some yN))).2)])])) (Ai (T_r_Fit (JJ (GS.some yN))) (Ai (Ai (show flat yi (.sl ((JJ (GS.some yN)).nl) (((JJ (GS.some yN)).l).map Sn.D) (zsl ((JJ (GS.some yN)).nl) 2) none)=false from (by rw [h41] <;> kernel_rfl)) (Ai (Ai (snap_row (gO:=zp [(0,⟨[.agg [I within.lo,I within.hi]],2,false⟩),(1,⟨yN.map Sn.D,2,false⟩)]) (o:=1) (len:=yN.length) (cap:=none) (fz:=false) z6 yN (by kernel_rfl) (by omega)) trivial) (T_JJ (GS.some yN) (by simp only [zY,zV,GS.some_l,List.length_set,List.length_append,List.length_cons,List.length_nil] at * <;> first | with_reducible assumption | omega)))) (Ai p7 (Ai (T_r_Down within.lo n (by omega)) (Ai h8 (Ai p2 (Ai h7 (Ai (zj Sn.D (zf r n)) (Ai p1 (Ai h6 (Ai h5 (Ai h4 (Ai h3 (Ai h2 (Ai h1 (Ai (yj r (by omega)) trivial)))))))))))))))) (by kernel_rfl)
         | x1 yD yE =>
          try dsimp only
          have xO:=ivt_r_Turns_12 n within (zf r n) ((within.hi - (w64 (n * zl within.lo n))).toNat+2) (w64 (n * (zl within.lo n))) (zU _ _ _ _ hn (by omega)) (by omega) (by omega) (by omega)
          rw [h40] at xO
          obtain ⟨xG,hv_h40_1⟩:=xO
          try dsimp only [iv_r_Turns_12] at xG
          try dsimp only [iv_r_Turns_12] at hv_h40_1
          have p8:=(zZ (q:=lr_r_Turns_12 n within (zf r n)) (lp_r_Turns_12 n within (zf r n) ((within.hi - (w64 (n * zl within.lo n))).toNat+2) (w64 (n * (zl within.lo n))) (zU _ _ _ _ hn (by omega)) (by omega) (by omega) (by omega)) h40)
          cases h42:(JJ (GS.some yD)).nl with
          | true =>
           exact zk ((r_Turns_o1 r n)++((r_Turns_o3 r n within)++[.loop (.exit 0) (sd45057 0 1 2 within yE n r yD),.pureS (.sl ((JJ (GS.some yD)).nl) (((JJ (GS.some yD)).l).map Sn.D) (zsl ((JJ (GS.some yD)).nl) 2) none) true [(1,.sl false (yD.map Sn.D) 2 none,[1])],.pure (.tup [.sl (((zw (JJ (GS.some yD))).1).nl) ((((zw (JJ (GS.some yD))).1).l).map Sn.D) (zsl (((zw (JJ (GS.some yD))).1).nl) 2) none,I ((zw (JJ (GS.some yD))).2)])])) (Ai (T_r_Fit (JJ (GS.some yD))) (Ai (Ai (show flat yi (.sl ((JJ (GS.some yD)).nl) (((JJ (GS.some yD)).l).map Sn.D) (zsl ((JJ (GS.some yD)).nl) 2) none)=true from (by rw [h42] <;> kernel_rfl)) (Ai (Ai (snap_row (gO:=zp [(0,⟨[.agg [I within.lo,I within.hi]],2,false⟩),(1,⟨yD.map Sn.D,2,false⟩)]) (o:=1) (len:=yD.length) (cap:=none) (fz:=false) z6 yD (by kernel_rfl) (by omega)) trivial) (T_JJ (GS.some yD) (by simp only [zY,zV,GS.some_l,List.length_set,List.length_append,List.length_cons,List.length_nil] at * <;> first | with_reducible assumption | omega)))) (Ai p8 (Ai (T_r_Down within.lo n (by omega)) (Ai h8 (Ai p2 (Ai h7 (Ai (zj Sn.D (zf r n)) (Ai p1 (Ai h6 (Ai h5 (Ai h4 (Ai h3 (Ai h2 (Ai h1 (Ai (yj r (by omega)) trivial)))))))))))))))) (by kernel_rfl)
          | false =>
           exact zk ((r_Turns_o1 r n)++((r_Turns_o3 r n within)++[.loop (.exit 0) (sd45057 0 1 2 within yE n r yD),.pureS (.sl ((JJ (GS.some yD)).nl) (((JJ (GS.some yD)).l).map Sn.D) (zsl ((JJ (GS.some yD)).nl) 2) none) false [(1,.sl false (yD.map Sn.D) 2 none,[1])],.pure (.tup [.sl (((zw (JJ (GS.some yD))).1).nl) ((((zw (JJ (GS.some yD))).1).l).map Sn.D) (zsl (((zw (JJ (GS.some yD))).1).nl) 2) none,I ((zw (JJ (GS.some yD))).2)])])) (Ai (T_r_Fit (JJ (GS.some yD))) (Ai (Ai (show flat yi (.sl ((JJ (GS.some yD)).nl) (((JJ (GS.some yD)).l).map Sn.D) (zsl ((JJ (GS.some yD)).nl) 2) none)=false from (by rw [h42] <;> kernel_rfl)) (Ai (Ai (snap_row (gO:=zp [(0,⟨[.agg [I within.lo,I within.hi]],2,false⟩),(1,⟨yD.map Sn.D,2,false⟩)]) (o:=1) (len:=yD.length) (cap:=none) (fz:=false) z6 yD (by kernel_rfl) (by omega)) trivial) (T_JJ (GS.some yD) (by simp only [zY,zV,GS.some_l,List.length_set,List.length_append,List.length_cons,List.length_nil] at * <;> first | with_reducible assumption | omega)))) (Ai p8 (Ai (T_r_Down within.lo n (by omega)) (Ai h8 (Ai p2 (Ai h7 (Ai (zj Sn.D (zf r n)) (Ai p1 (Ai h6 (Ai h5 (Ai h4 (Ai h3 (Ai h2 (Ai h1 (Ai (yj r (by omega)) trivial)))))))))))))))) (by kernel_rfl)
         | x2 yK yx =>
          try dsimp only
          have xO:=ivt_r_Turns_12 n within (zf r n) ((within.hi - (w64 (n * zl within.lo n))).toNat+2) (w64 (n * (zl within.lo n))) (zU _ _ _ _ hn (by omega)) (by omega) (by omega) (by omega)
          rw [h40] at xO
          have xG:=xO
          try dsimp only [iv_r_Turns_12] at xG
          have hbw:=r_Turns_12_x2 hq (by assumption)
          have p9:=(zZ (q:=lr_r_Turns_12 n within (zf r n)) (lp_r_Turns_12 n within (zf r n) ((within.hi - (w64 (n * zl within.lo n))).toNat+2) (w64 (n * (zl within.lo n))) (zU _ _ _ _ hn (by omega)) (by omega) (by omega) (by omega)) h40)
          cases h43:(JJ (GS.some yx)).nl with
          | true =>
           exact zk ((r_Turns_o1 r n)++((r_Turns_o3 r n within)++[.loop (.exit 0) (sd45056 1 0 2 r n yx yK within),.pureS (.sl ((JJ (GS.some yx)).nl) (((JJ (GS.some yx)).l).map Sn.D) (zsl ((JJ (GS.some yx)).nl) 2) none) true [(1,.sl false (yx.map Sn.D) 2 none,[1])],.pure (.tup [.sl (((zw (JJ (GS.some yx))).1).nl) ((((zw (JJ (GS.some yx))).1).l).map Sn.D) (zsl (((zw (JJ (GS.some yx))).1).nl) 2) none,I ((zw (JJ (GS.some yx))).2)])])) (Ai (T_r_Fit (JJ (GS.some yx))) (Ai (Ai (show flat yi (.sl ((JJ (GS.some yx)).nl) (((JJ (GS.some yx)).l).map Sn.D) (zsl ((JJ (GS.some yx)).nl) 2) none)=true from (by rw [h43] <;> kernel_rfl)) (Ai (Ai (snap_row (gO:=zp [(0,⟨[.agg [I within.lo,I within.hi]],2,false⟩),(1,⟨yx.map Sn.D,2,false⟩)]) (o:=1) (len:=yx.length) (cap:=none) (fz:=false) z6 yx (by kernel_rfl) (by omega)) trivial) (T_JJ (GS.some yx) (by simp only [zY,zV,GS.some_l,List.length_set,List.length_append,List.length_cons,List.length_nil] at * <;> first | with_reducible assumption | omega)))) (Ai p9 (Ai (T_r_Down within.lo n (by omega)) (Ai h8 (Ai p2 (Ai h7 (Ai (zj Sn.D (zf r n)) (Ai p1 (Ai h6 (Ai h5 (Ai h4 (Ai h3 (Ai h2 (Ai h1 (Ai (yj r (by omega)) trivial)))))))))))))))) (by kernel_rfl)
          | false =>
           exact zk ((r_Turns_o1 r n)++((r_Turns_o3 r n within)++[.loop (.exit 0) (sd45056 1 0 2 r n yx yK within),.pureS (.sl ((JJ (GS.some yx)).nl) (((JJ (GS.some yx)).l).map Sn.D) (zsl ((JJ (GS.some yx)).nl) 2) none) false [(1,.sl false (yx.map Sn.D) 2 none,[1])],.pure (.tup [.sl (((zw (JJ (GS.some yx))).1).nl) ((((zw (JJ (GS.some yx))).1).l).map Sn.D) (zsl (((zw (JJ (GS.some yx))).1).nl) 2) none,I ((zw (JJ (GS.some yx))).2)])])) (Ai (T_r_Fit (JJ (GS.some yx))) (Ai (Ai (show flat yi (.sl ((JJ (GS.some yx)).nl) (((JJ (GS.some yx)).l).map Sn.D) (zsl ((JJ (GS.some yx)).nl) 2) none)=false from (by rw [h43] <;> kernel_rfl)) (Ai (Ai (snap_row (gO:=zp [(0,⟨[.agg [I within.lo,I within.hi]],2,false⟩),(1,⟨yx.map Sn.D,2,false⟩)]) (o:=1) (len:=yx.length) (cap:=none) (fz:=false) z6 yx (by kernel_rfl) (by omega)) trivial) (T_JJ (GS.some yx) (by simp only [zY,zV,GS.some_l,List.length_set,List.length_append,List.length_cons,List.length_nil] at * <;> first | with_reducible assumption | omega)))) (Ai p9 (Ai (T_r_Down within.lo n (by omega)) (Ai h8 (Ai p2 (Ai h7 (Ai (zj Sn.D (zf r n)) (Ai p1 (Ai h6 (Ai h5 (Ai h4 (Ai h3 (Ai h2 (Ai h1 (Ai (yj r (by omega)) trivial)))))))))))))))) (by kernel_rfl)
         | x3 yK =>
          try dsimp only
          have xO:=ivt_r_Turns_12 n within (zf r n) ((within.hi - (w64 (n * zl within.lo n))).toNat+2) (w64 (n * (zl within.lo n))) (zU _ _ _ _ hn (by omega)) (by omega) (by omega) (by omega)
          rw [h40] at xO
          have xG:=xO
          try dsimp only [iv_r_Turns_12] at xG
          exact zk ((r_Turns_o1 r n)++((r_Turns_o3 r n within)++[.loop (.exit 0) (sd45058 0 1 r n yK within),.pure (.sl ((JJ GS.nil).nl) (((JJ GS.nil).l).map Sn.D) (zsl ((JJ GS.nil).nl) 2) none),.pure (.tup [.sl (((zw (JJ GS.nil)).1).nl) ((((zw (JJ GS.nil)).1).l).map Sn.D) (zsl (((zw (JJ GS.nil)).1).nl) 2) none,I ((zw (JJ GS.nil)).2)])])) (Ai (T_r_Fit (JJ GS.nil)) (Ai (T_JJ GS.nil (by simp [GS.nil])) (Ai (zZ (q:=lr_r_Turns_12 n within (zf r n)) (lp_r_Turns_12 n within (zf r n) ((within.hi - (w64 (n * zl within.lo n))).toNat+2) (w64 (n * (zl within.lo n))) (zU _ _ _ _ hn (by omega)) (by omega) (by omega) (by omega)) h40) (Ai (T_r_Down within.lo n (by omega)) (Ai h8 (Ai p2 (Ai h7 (Ai (zj Sn.D (zf r n)) (Ai p1 (Ai h6 (Ai h5 (Ai h4 (Ai h3 (Ai h2 (Ai h1 (Ai (yj r (by omega)) trivial)))))))))))))))) (by kernel_rfl)
         | x4 yK =>
          try dsimp only
          have xO:=ivt_r_Turns_12 n within (zf r n) ((within.hi - (w64 (n * zl within.lo n))).toNat+2) (w64 (n * (zl within.lo n))) (zU _ _ _ _ hn (by omega)) (by omega) (by omega) (by omega)
          rw [h40] at xO
          have xG:=xO
          try dsimp only [iv_r_Turns_12] at xG
          exact zk ((r_Turns_o1 r n)++((r_Turns_o3 r n within)++[.loop (.exit 0) (sd45059 0 1 within yK n r),.pure (.sl ((JJ GS.nil).nl) (((JJ GS.nil).l).map Sn.D) (zsl ((JJ GS.nil).nl) 2) none),.pure (.tup [.sl (((zw (JJ GS.nil)).1).nl) ((((zw (JJ GS.nil)).1).l).map Sn.D) (zsl (((zw (JJ GS.nil)).1).nl) 2) none,I ((zw (JJ GS.nil)).2)])])) (Ai (T_r_Fit (JJ GS.nil)) (Ai (T_JJ GS.nil (by simp [GS.nil])) (Ai (zZ (q:=lr_r_Turns_12 n within (zf r n)) (lp_r_Turns_12 n within (zf r n) ((within.hi - (w64 (n * zl within.lo n))).toNat+2) (w64 (n * (zl within.lo n))) (zU _ _ _ _ hn (by omega)) (by omega) (by omega) (by omega)) h40) (Ai (T_r_Down within.lo n (by omega)) (Ai h8 (Ai p2 (Ai h7 (Ai (zj Sn.D (zf r n)) (Ai p1 (Ai h6 (Ai h5 (Ai h4 (Ai h3 (Ai h2 (Ai h1 (Ai (yj r (by omega)) trivial)))))))))))))))) (by kernel_rfl)
         | out =>
          exact absurd h40 ((zU _ _ _ _ hn (by omega)))
 | false =>
  exact zk [.pure (B (r_Valid r)),.dec false] (Ai h1 (Ai (yj r (by omega)) trivial)) (by kernel_rfl)
end Go.VS

namespace Go.VS
open Go
set_option maxHeartbeats 0
def SO (l:List Sn):Prop:=(∀ s∈l,s.lo≤s.hi)∧l.Pairwise fun a c=>a.hi < c.lo
def SG (l:List Sn):Prop:=(∀ s∈l,s.lo≤s.hi)∧l.Pairwise fun a c=>a.hi+1 < c.lo
theorem SG.so {l:List Sn} (h:SG l):SO l:=⟨h.1,h.2.imp fun {a b} k=>by omega⟩
def mg:List Sn→Nat
 | []=>0
 | a::l=>(match l with | []=>0 | c::_=>if c.lo≤a.hi+1 then 1 else 0)+mg l
theorem SO.tail {a:Sn} {l:List Sn} (h:SO (a::l)):SO l:=⟨fun s hs=>h.1 s (List.mem_cons_of_mem _ hs),(List.pairwise_cons.1 h.2).2⟩
theorem jnO_len:∀ (l:List Sn) (c:Sn),SO (c::l)→(jn c l).length+mg (c::l)=l.length+1
 | [],c,_=>rfl
 | x::l,c,h=>by
  have hx:=h.1 x (by simp)
  have hcx:=(List.pairwise_cons.1 h.2).1 x List.mem_cons_self
  unfold jn
  simp only [mg]
  split
  ·rename_i hc
   have h':SO (⟨c.lo,max c.hi x.hi⟩::l):=by
    refine ⟨fun s hs=>?_,?_⟩
    ·rcases List.mem_cons.1 hs with rfl | hs
     ·have:=h.1 c List.mem_cons_self; simp only; omega
     ·exact h.1 s (List.mem_cons_of_mem _ (List.mem_cons_of_mem _ hs))
    ·refine List.pairwise_cons.2 ⟨fun s hs=>?_,(List.pairwise_cons.1 h.tail.2).2⟩
     have:=(List.pairwise_cons.1 h.tail.2).1 s hs
     simp only; omega
   have ih:=jnO_len l _ h'
   simp only [mg] at ih
   rw [show max c.hi x.hi=x.hi by omega] at ih ⊢
   rw [List.length_cons]
   cases l with
   | nil=>simp only at ih ⊢; omega
   | cons y l=>simp only at ih ⊢; omega
  ·have ih:=jnO_len l x h.tail
   simp only [mg] at ih
   rw [List.length_cons,List.length_cons]
   cases l with
   | nil=>simp only at ih ⊢; omega
   | cons y l=>simp only at ih ⊢; omega
theorem canO_len {l:List Sn} (h:SO l):(can zo l).length+mg l=l.length:=by
 have hs:srtS l:=List.Pairwise.imp_of_mem (fun {a b} ha _ k=>by have:=h.1 a ha; omega) h.2
 have e:can zo l=jnL l:=(can_rg gcmp_lo h.1).unique (jnL_rg h.1 hs)
 rw [e]
 cases l with
 | nil=>rfl
 | cons c l=>exact jnO_len l c h
theorem mg_app:∀ (a b:List Sn),mg (a++b)≤mg a+mg b+1
 | [],b=>by simp [mg]
 | [x],b=>by
  simp only [List.cons_append,List.nil_append,mg]
  cases b with
  | nil=>simp [mg]
  | cons y b=>simp only; split <;> omega
 | x::y::a,b=>by
  have:=mg_app (y::a) b
  simp only [List.cons_append,mg] at this ⊢
  omega
theorem mg_gap:∀ (a b:List Sn),(∀ s∈a,∀ t∈b,s.hi+1 < t.lo)→mg (a++b)=mg a+mg b
 | [],b,_=>by simp [mg]
 | [x],b,h=>by
  simp only [List.cons_append,List.nil_append,mg]
  cases b with
  | nil=>simp [mg]
  | cons y b =>
   have:=h x List.mem_cons_self y List.mem_cons_self
   simp only
   rw [if_neg (by omega)]
 | x::y::a,b,h=>by
  have:=mg_gap (y::a) b fun s hs=>h s (List.mem_cons_of_mem _ hs)
  simp only [List.cons_append,mg] at this ⊢
  omega
theorem mg_sg:∀ {l:List Sn},SG l→mg l=0
 | [],_=>rfl
 | [x],_=>rfl
 | x::y::l,h=>by
  have h1:=(List.pairwise_cons.1 h.2).1 y List.mem_cons_self
  have:=mg_sg (l:=y::l) ⟨fun s hs=>h.1 s (List.mem_cons_of_mem _ hs),(List.pairwise_cons.1 h.2).2⟩
  simp only [mg] at this ⊢
  rw [if_neg (by omega)]
  omega
theorem cut_spans {r r':List Sn} {B:Int} (h:cn r) (h':cn r') (hi:∀ y,In r' y↔In r y∧y < B):r'.length≤r.length:=by
 refine cn_count h r'.length (fun j=>(r'.getD j default).lo) (fun j=>(r'.getD j default).hi+1) (fun j hj=>?_) (fun j hj=>?_)
 ·have hm:r'.getD j default∈r':=by rw [List.getD_eq_getElem?_getD,List.getElem?_eq_getElem hj]; exact List.getElem_mem hj
  exact ((hi _).1 ⟨_,hm,Int.le_refl _,cn_mem h' hm⟩).1
 ·have e1:r'.getD j default=r'[j]:=by rw [List.getD_eq_getElem?_getD,List.getElem?_eq_getElem (by omega)]; rfl
  have e2:r'.getD (j+1) default=r'[j+1]:=by rw [List.getD_eq_getElem?_getD,List.getElem?_eq_getElem hj]; rfl
  have hm1:r'[j]∈r':=List.getElem_mem _
  have hm2:r'[j+1]∈r':=List.getElem_mem _
  have pw:∀ {q:List Sn},cn q→q.Pairwise fun a c=>a.hi+1 < c.lo:=fun {q}=>by
   induction q with
   | nil=>intro _; exact List.Pairwise.nil
   | cons s q ih=>intro hq; exact List.pairwise_cons.2 ⟨hq.2.1,ih hq.2.2⟩
  have hg:=List.pairwise_iff_getElem.1 (pw h') j (j+1) (by omega) hj (by omega)
  have l1:=cn_mem h' hm1
  have l2:=cn_mem h' hm2
  have hB:=((hi _).1 ⟨_,hm2,Int.le_refl _,l2⟩).2
  simp only [e1,e2]
  refine ⟨fun hin=>?_,by omega,by omega⟩
  obtain ⟨t,ht,k1,k2⟩:=(hi (r'[j].hi+1)).2 ⟨hin,by omega⟩
  obtain ⟨i,hi',rfl⟩:=List.getElem_of_mem ht
  rcases Nat.lt_trichotomy i j with h3 | h3 | h3
  ·have:=List.pairwise_iff_getElem.1 (pw h') i j hi' (by omega) h3
   omega
  ·subst h3; omega
  ·have:=List.pairwise_iff_getElem.1 (pw h') j i (by omega) hi' h3
   omega
def rF (W:Sn) (b:Int) (x:Sn):List Sn:=someS (max (b+x.lo) W.lo) (min (b+x.hi) W.hi)
def part (W:Sn) (b:Int) (l:List Sn):List Sn:=l.flatMap (rF W b)
def refL (W:Sn) (n:Int) (l:List Sn):Nat→Int→List Sn
 | 0,_=>[]
 | f+1,b=>if b≤W.hi then part W b l++refL W n l f (b+n) else []
theorem rF_mem {W:Sn} {b:Int} {x s:Sn} (h:s∈rF W b x):s.lo=max (b+x.lo) W.lo∧s.hi=min (b+x.hi) W.hi∧s.lo≤s.hi:=by
 have h0:=some_ne s h
 unfold rF someS at h
 split at h
 ·cases h
 ·rw [List.mem_singleton.1 h] at h0 ⊢
  exact ⟨rfl,rfl,h0⟩
theorem part_mem {W:Sn} {b:Int} {l:List Sn} {s:Sn} (h:s∈part W b l):∃ x∈l,s.lo=max (b+x.lo) W.lo∧s.hi=min (b+x.hi) W.hi∧s.lo≤s.hi:=by
 obtain ⟨x,hx,h⟩:=List.mem_flatMap.1 h
 exact ⟨x,hx,rF_mem h⟩
theorem In_part {W:Sn} {b:Int} {l:List Sn} {y:Int}:In (part W b l) y↔W.lo≤y∧y≤W.hi∧In l (y - b):=by
 unfold part
 rw [In_flat]
 constructor
 ·rintro ⟨x,hx,h⟩
  have:=In_some.1 h
  exact ⟨by omega,by omega,x,hx,by omega,by omega⟩
 ·rintro ⟨h1,h2,x,hx,h3,h4⟩
  exact ⟨x,hx,In_some.2 ⟨by omega,by omega⟩⟩
structure Rm (n:Int) (l:List Sn):Prop where
 c:cn l
 bd:∀ s∈l,0≤s.lo∧s.lo≤s.hi∧s.hi < n
 ne:l ≠ []
 nf:∀ s∈l,¬ (s.lo=0∧s.hi=n - 1)
theorem part_sg {W:Sn} {b:Int}:∀ {l:List Sn},cn l→SG (part W b l)
 | [],_=>⟨(fun s hs=>by cases hs),List.Pairwise.nil⟩
 | x::l,h=>by
  have ih:=part_sg (W:=W) (b:=b) h.2.2
  have e:part W b (x::l)=rF W b x++part W b l:=rfl
  rw [e]
  refine ⟨fun s hs=>?_,?_⟩
  ·rcases List.mem_append.1 hs with hs | hs
   ·exact (rF_mem hs).2.2
   ·exact ih.1 s hs
  ·refine List.pairwise_append.2 ⟨?_,ih.2,fun s hs t ht=>?_⟩
   ·unfold rF someS
    split
    ·exact List.Pairwise.nil
    ·exact List.pairwise_singleton _ _
   ·obtain ⟨_,s2,_⟩:=rF_mem hs
    obtain ⟨z,hz,t1,_⟩:=part_mem ht
    have:=h.2.1 z hz
    omega
theorem part_full {W:Sn} {b n:Int}:∀ {l:List Sn},(∀ s∈l,0≤s.lo∧s.lo≤s.hi∧s.hi < n)→W.lo≤b→b+n≤W.hi+1→(part W b l).length=l.length
 | [],_,_,_=>rfl
 | x::l,h,h1,h2=>by
  have hx:=h x List.mem_cons_self
  have ih:=part_full (W:=W) (b:=b) (l:=l) (fun s hs=>h s (List.mem_cons_of_mem _ hs)) h1 h2
  have e:part W b (x::l)=rF W b x++part W b l:=rfl
  rw [e,List.length_append,ih,List.length_cons]
  unfold rF someS
  rw [if_neg (by omega)]
  simp; omega
structure Iv (n:Int) (W:Sn) (l w:List Sn) (b:Int):Prop where
 so:SO w
 hi:∀ t∈w,∃ s∈l,t.hi≤b - n+s.hi
 fst:w=[] ∨ W.lo≤b
 lo:W.lo - n < b
 one:l.length=1→mg w=0
 two:2≤l.length→2 * mg w≤w.length
theorem Iv.step {n:Int} {W:Sn} {l w:List Sn} {b:Int} (hl:Rm n l) (h:Iv n W l w b) (hb:b+n≤W.hi):Iv n W l (w++part W b l) (b+n):=by
 have hp:=part_sg (W:=W) (b:=b) hl.c
 have hn:1≤n:=by
  cases hq:l with
  | nil=>exact absurd hq hl.ne
  | cons s _=>have:=hl.bd s (by rw [hq]; simp); omega
 have hlow:∀ t∈part W b l,b≤t.lo:=fun t ht=>by
  obtain ⟨x,hx,h1,_⟩:=part_mem ht
  have:=hl.bd x hx
  omega
 have hw:∀ t∈w,t.hi < b:=fun t ht=>by
  obtain ⟨s,hs,h1⟩:=h.hi t ht
  have:=hl.bd s hs
  omega
 refine ⟨⟨fun s hs=>?_,?_⟩,fun t ht=>?_,.inr (by have:=h.lo; omega),by have:=h.lo; omega,fun h1=>?_,fun h2=>?_⟩
 ·rcases List.mem_append.1 hs with hs | hs
  ·exact h.so.1 s hs
  ·exact hp.1 s hs
 ·exact List.pairwise_append.2 ⟨h.so.2,hp.so.2,fun s hs t ht=>by have:=hw s hs; have:=hlow t ht; omega⟩
 ·rcases List.mem_append.1 ht with ht | ht
  ·obtain ⟨s,hs,h1⟩:=h.hi t ht
   exact ⟨s,hs,by omega⟩
  ·obtain ⟨x,hx,_,h2,_⟩:=part_mem ht
   exact ⟨x,hx,by omega⟩
 ·rw [mg_gap,h.one h1,mg_sg hp]
  intro s hs t ht
  obtain ⟨x,hx,h3⟩:=h.hi s hs
  obtain ⟨z,hz,h4,_⟩:=part_mem ht
  have hxz:x=z:=by
   cases l with
   | nil=>cases hx
   | cons a r =>
    cases r with
    | nil=>rw [List.mem_singleton.1 hx,List.mem_singleton.1 hz]
    | cons c r=>simp at h1
  subst hxz
  have h5:=hl.bd x hx
  have h6:=hl.nf x hx
  omega
 ·rcases h.fst with h3 | h3
  ·subst h3
   rw [List.nil_append,mg_sg hp]; omega
  ·have h4:=mg_app w (part W b l)
   have h5:=h.two h2
   have h6:=part_full (W:=W) (b:=b) hl.bd h3 (by omega)
   rw [mg_sg hp] at h4
   rw [List.length_append,h6]
   omega
theorem Iv.many {n:Int} {W:Sn} {l w:List Sn} {b:Int} (hl:Rm n l) (h:Iv n W l w b) (hlen:128+l.length < w.length):64 < (can zo w).length:=by
 have h1:=canO_len h.so
 have h2:=List.length_pos_iff.2 hl.ne
 by_cases h3:l.length=1
 ·have:=h.one h3; omega
 ·have:=h.two (by omega); omega
theorem refL_lo {W:Sn} {n:Int} {l:List Sn} (hn:0≤n) (hb:∀ s∈l,0≤s.lo):∀ (f:Nat) (b:Int),∀ s∈refL W n l f b,b≤s.lo
 | 0,b,s,h=>by cases h
 | f+1,b,s,h=>by
  unfold refL at h
  split at h
  ·rcases List.mem_append.1 h with h | h
   ·obtain ⟨x,hx,h1,_⟩:=part_mem h
    have:=hb x hx
    omega
   ·have:=refL_lo hn hb f (b+n) s h
    omega
  ·cases h
def Ends (n:Int) (W:Sn) (l w:List Sn) (f:Nat) (b:Int) (res:List Sn):Prop :=
 res=w++refL W n l f b ∨ (64 < (can zo res).length∧SO res∧∃ B,∀ y,In res y↔In (w++refL W n l f b) y∧y < B)
def rU_r:LR_r_Turns_12→List Sn
 | .x0 _ w=>w
 | .x1 w _=>w
 | .x2 _ w=>w
 | _=>[]
theorem tnF_w {W:Sn} {b:Int} {x:Sn} (hb:-1099511637777≤b∧b≤1099511627776) (hx:0≤x.lo∧x.lo≤x.hi∧x.hi < 10000):tnF W b x=rF W b x:=by
 unfold tnF rF
 rw [y7 (by omega) (by omega),y7 (by omega) (by omega)]
theorem tnL_w {W:Sn} {b:Int} {l:List Sn} (hb:-1099511637777≤b∧b≤1099511627776) (hl:∀ s∈l,0≤s.lo∧s.lo≤s.hi∧s.hi < 10000):tnL W b l=part W b l:=flat_congr fun x hx=>tnF_w hb (hl x hx)
theorem break_ends {n:Int} {W:Sn} {q:GS Sn} (hn:NOk n) (hl:Rm n q.l) {w:List Sn} {b:Int} {f:Nat} (h:Iv n W q.l w b) (hb:b≤W.hi) (hlen:128+q.l.length < (w++part W b q.l).length):Ends n W q.l w (f+1) b (w++part W b q.l):=by
 have n1:=hn.1
 by_cases hc:b+n≤W.hi
 ·right
  have hs:=h.step hl hc
  refine ⟨hs.many hl hlen,hs.so,b+n,fun y=>?_⟩
  have e:refL W n q.l (f+1) b=part W b q.l++refL W n q.l f (b+n):=by rw [refL,if_pos hb]
  rw [e,← List.append_assoc,In_append (a:=w++part W b q.l)]
  constructor
  ·intro hy
   refine ⟨.inl hy,?_⟩
   obtain ⟨t,ht,h1,h2⟩:=hy
   obtain ⟨s,hs',h3⟩:=hs.hi t ht
   have:=hl.bd s hs'
   omega
  ·rintro ⟨hy | ⟨t,ht,h1,h2⟩,h3⟩
   ·exact hy
   ·have:=refL_lo (W:=W) (n:=n) (l:=q.l) (by omega) (fun s hs=>(hl.bd s hs).1) f (b+n) t ht
    omega
 ·left
  rw [refL,if_pos hb]
  have:refL W n q.l f (b+n)=[]:=by
   cases f with
   | zero=>rfl
   | succ f=>rw [refL,if_neg hc]
  rw [this,List.append_nil]
theorem go_on {n:Int} {W:Sn} {q:GS Sn} {w:List Sn} {b:Int} {f:Nat} {res:List Sn} (hb:b≤W.hi) (h:Ends n W q.l (w++part W b q.l) f (b+n) res):Ends n W q.l w (f+1) b res:=by
 unfold Ends at *
 rw [refL,if_pos hb,← List.append_assoc]
 exact h
section
variable {n:Int} {W:Sn} {q:GS Sn} (hn:NOk n) (hW:W.hi≤1099511627776) (hl:Rm n q.l) (hq:q.l.length≤128)
include hn hW hl hq
theorem rT12a_eq:∀ (f:Nat) (w:List Sn) (b:Int),(W.hi+1 - b).toNat < f→-1099511637777≤b→(b≤W.hi→Iv n W q.l w b)→Ends n W q.l w f b (rU_r (r_Turns_12a n W q f w b))
 | 0,w,b,h0,h1,h2=>by omega
 | f+1,w,b,h0,h1,h2=>by
  have n1:=hn.1
  have n2:=hn.2
  have hbd:∀ s∈q.l,0≤s.lo∧s.lo≤s.hi∧s.hi < 10000:=fun s hs=>by have:=hl.bd s hs; omega
  unfold r_Turns_12a
  by_cases hc:b≤W.hi
  ·rw [decide_eq_true hc,cond_true,r_Turns_15_eq,tnL_w ⟨h1,by omega⟩ hbd,y7 (n:=128+((q.l.length:Nat):Int)) (by omega) (by omega),y7 (n:=b+n) (by omega) (by omega)]
   dsimp only
   by_cases hd:(((w++part W b q.l).length:Nat):Int) > 128+((q.l.length:Nat):Int)
   ·rw [decide_eq_true hd]
    exact break_ends hn hl (h2 hc) hc (by omega)
   ·rw [decide_eq_false hd]
    exact go_on hc (rT12a_eq f _ (b+n) (by omega) (by omega) fun hc2=>(h2 hc).step hl hc2)
  ·rw [decide_eq_false hc]
   left
   rw [refL,if_neg hc]
   simp [rU_r]
theorem rT12_eq:∀ (f:Nat) (b:Int),(W.hi+1 - b).toNat < f→-1099511637777≤b→(b≤W.hi→Iv n W q.l [] b)→Ends n W q.l [] f b (rU_r (y5 n W q f b))
 | 0,b,h0,h1,h2=>by omega
 | f+1,b,h0,h1,h2=>by
  have n1:=hn.1
  have n2:=hn.2
  have hbd:∀ s∈q.l,0≤s.lo∧s.lo≤s.hi∧s.hi < 10000:=fun s hs=>by have:=hl.bd s hs; omega
  unfold y5
  by_cases hc:b≤W.hi
  ·rw [decide_eq_true hc,cond_true,y7 (n:=128+((q.l.length:Nat):Int)) (by omega) (by omega),y7 (n:=b+n) (by omega) (by omega)]
   have hi:=h2 hc
   rcases r_Turns_15p1_eq W b q.l with ⟨he,e⟩ | e <;> rw [e] <;> dsimp only
   ·rw [tnL_w ⟨h1,by omega⟩ hbd] at he
    rw [decide_eq_false (show ¬ 0 > 128+((q.l.length:Nat):Int) by omega),cond_false]
    refine go_on hc ?_
    rw [he]
    refine rT12_eq f (b+n) (by omega) (by omega) fun hc2=>?_
    have:=hi.step hl hc2
    rw [he] at this
    exact this
   ·rw [tnL_w ⟨h1,by omega⟩ hbd]
    by_cases hd:(((part W b q.l).length:Nat):Int) > 128+((q.l.length:Nat):Int)
    ·rw [decide_eq_true hd]
     have:=break_ends hn hl (f:=f) hi hc (by rw [List.nil_append]; omega)
     rw [List.nil_append] at this
     exact this
    ·rw [decide_eq_false hd]
     refine go_on hc ?_
     rw [List.nil_append]
     refine rT12a_eq hn hW hl hq f _ (b+n) (by omega) (by omega) fun hc2=>?_
     have:=hi.step hl hc2
     rw [List.nil_append] at this
     exact this
  ·rw [decide_eq_false hc]
   left
   rw [refL,if_neg hc]
   rfl
end
theorem In_refL {n:Int} {W:Sn} {l:List Sn} (hn:1≤n) (hb:∀ s∈l,0≤s.lo∧s.lo≤s.hi∧s.hi < n):∀ (f:Nat) (k:Int) (y:Int),(W.hi+1 - n * k).toNat < f→(In (refL W n l f (n * k)) y↔W.lo≤y∧y≤W.hi∧n * k≤y∧In l (y % n))
 | 0,k,y,h=>by omega
 | f+1,k,y,h=>by
  unfold refL
  have e:n * k+n=n * (k+1):=by rw [Int.mul_add,Int.mul_one]
  split
  ·rename_i hc
   rw [In_append,In_part,e,In_refL hn hb f (k+1) y (by omega)]
   have tk:n * k≤y→y < n * k+n→y - n * k=y % n:=fun h1 h2=>by
    have:=(Int.ediv_emod_unique (a:=y) (b:=n) (r:=y - n * k) (q:=k) (by omega)).2 ⟨by omega,by omega,by omega⟩
    exact this.2.symm
   constructor
   ·rintro (⟨h1,h2,s,hs,h3,h4⟩ | ⟨h1,h2,h3,h4⟩)
    ·have:=hb s hs
     refine ⟨h1,h2,by omega,?_⟩
     rw [← tk (by omega) (by omega)]
     exact ⟨s,hs,h3,h4⟩
    ·exact ⟨h1,h2,by omega,h4⟩
   ·rintro ⟨h1,h2,h3,h4⟩
    by_cases h5:y < n * k+n
    ·left
     rw [tk h3 h5]
     exact ⟨h1,h2,h4⟩
    ·exact .inr ⟨h1,h2,by omega,h4⟩
  ·rename_i hc
   constructor
   ·intro h; exact absurd h In_nil
   ·rintro ⟨_,h2,h3,_⟩; omega
end Go.VS

namespace Go.VS
open Go
set_option maxHeartbeats 0
theorem rs5_eq {r:List Sn} {n:Int} (hr:Ok r) (hn:NOk n):r.flatMap (rs5 n)=restL r n:=flat_congr fun x hx=>rests1_eq (ok_bx hr _ hx) hn
theorem restL_one {r:List Sn} {n:Int} (hr:Ok r) (hn:NOk n):∀ s∈restL r n,0≤s.lo∧s.lo≤s.hi∧s.hi < n:=restL_bd (fun x hx=>cn_mem hr.1 hx) hn.1
theorem turns_bad {r:GS Sn} {n:Int} {W:Sn} (hr:Ok r.l) (h:¬ (NOk n∧WOk W)):zW r n W=(GS.nil,1)∧r_Turns r n W=(GS.nil,1):=by
 constructor
 ·unfold zW
  rw [check_iff.2 hr]
  simp only [bne_self_eq_false,cond_false]
  cases h1:ranges_in n 1 10000 with
  | false=>rfl
  | true =>
   have h1:=in_iff.1 h1
   by_cases h2:W.lo > W.hi
   ·rw [decide_eq_true h2]; rfl
   ·rw [decide_eq_false h2]
    cases h3:zh W.lo with
    | false=>rfl
    | true =>
     have h3:=area_b h3
     cases h4:zh W.hi with
     | false=>rfl
     | true =>
      have h4:=area_b h4
      exact absurd ⟨h1,by omega,by omega,by omega⟩ h
 ·unfold r_Turns
  rw [valid_iff.2 hr]
  simp only [cond_true]
  by_cases h1:n < 1
  ·rw [decide_eq_true h1]; rfl
  ·rw [decide_eq_false h1]
   by_cases h2:n > 10000
   ·rw [decide_eq_true h2]; rfl
   ·rw [decide_eq_false h2]
    by_cases h3:W.lo < -1099511627776
    ·rw [decide_eq_true h3]; rfl
    ·rw [decide_eq_false h3]
     by_cases h4:W.lo > W.hi
     ·rw [decide_eq_true h4]; rfl
     ·rw [decide_eq_false h4]
      by_cases h5:W.hi > 1099511627776
      ·rw [decide_eq_true h5]; rfl
      ·exact absurd ⟨⟨by omega,by omega⟩,by unfold WOk; omega⟩ h
theorem turns_no {r:GS Sn} {n:Int} {W:Sn} (hr:¬ Ok r.l):zW r n W=(GS.nil,20)∧r_Turns r n W=(GS.nil,20):=by
 constructor
 ·unfold zW
  rw [chk_no hr]; rfl
 ·unfold r_Turns
  rw [valid_no.2 hr]; rfl
theorem rU12a_len {n:Int} {W:Sn} {q:GS Sn} (hq:q.l.length≤128):∀ (f:Nat) (w:List Sn) (v:Int),w.length≤256→(rU_r (r_Turns_12a n W q f w v)).length≤384
 | 0,w,v,h=>by simp [r_Turns_12a,rU_r]
 | f+1,w,v,h=>by
  unfold r_Turns_12a
  cases decide (v≤W.hi) with
  | false=>simp only [cond_false,rU_r]; omega
  | true =>
   rw [r_Turns_15_eq]
   have hl:=tnL_len W v q.l
   simp only [cond_true]
   by_cases hc:(((w++tnL W v q.l).length:Nat):Int) > (w64 (128+((q.l.length:Nat):Int)))
   ·rw [decide_eq_true hc]
    simp only [cond_true,rU_r,List.length_append]; omega
   ·rw [decide_eq_false hc]
    rw [y7 (by omega) (by omega)] at hc
    exact rU12a_len hq f _ _ (by omega)
theorem rU12_len {n:Int} {W:Sn} {q:GS Sn} (hq:q.l.length≤128):∀ (f:Nat) (v:Int),(rU_r (y5 n W q f v)).length≤384
 | 0,v=>by simp [y5,rU_r]
 | f+1,v=>by
  unfold y5
  cases decide (v≤W.hi) with
  | false=>simp [rU_r]
  | true =>
   have hl:=tnL_len W v q.l
   simp only [cond_true]
   rcases r_Turns_15p1_eq W v q.l with ⟨_,e⟩ | e <;> rw [e] <;> dsimp only
   ·cases decide (0 > (w64 (128+((q.l.length:Nat):Int)))) with
    | true=>simp [rU_r]
    | false=>exact rU12_len hq f _
   ·by_cases hc:(((tnL W v q.l).length:Nat):Int) > (w64 (128+((q.l.length:Nat):Int)))
    ·rw [decide_eq_true hc]
     simp only [cond_true,rU_r]; omega
    ·rw [decide_eq_false hc]
     exact rU12a_len hq f _ _ (by omega)
theorem part_bd {W:Sn} (hW:WOk W) {l:List Sn} {b:Int}:Bd (part W b l):=fun s hs=>by
 obtain ⟨x,_,h1,h2,h3⟩:=part_mem hs
 obtain ⟨w1,w2,w3⟩:=hW
 omega
theorem refL_bd {W:Sn} (hW:WOk W) {n:Int} {l:List Sn}:∀ (f:Nat) (b:Int),Bd (refL W n l f b)
 | 0,b,s,h=>by cases h
 | f+1,b,s,h=>by
  unfold refL at h
  split at h
  ·rcases List.mem_append.1 h with h | h
   ·exact part_bd hW s h
   ·exact refL_bd hW f (b+n) s h
  ·cases h
section
variable {r:GS Sn} {n:Int} {W:Sn} (hr:Ok r.l) (hn:NOk n) (hW:WOk W)
include hr hn hW
theorem turns_prog:(restL r.l n=[]∧zW r n W=(GS.nil,0)) ∨ (restL r.l n ≠ []∧(∀ y,0≤y→y < n→In (restL r.l n) y)∧zW r n W=(GS.some [W],0)) ∨
  (restL r.l n ≠ []∧¬ (∀ y,0≤y→y < n→In (restL r.l n) y)∧((66 < W.hi / n - W.lo / n∧zW r n W=(GS.nil,2)) ∨ GR (pL n W (restL r.l n) (W.hi / n+1 - W.lo / n).toNat (W.lo / n)) (zW r n W))):=by
 obtain ⟨w1,w2,w3⟩:=hW
 have n1:=hn.1
 have n2:=hn.2
 have bl:=ediv_bd (a:=W.lo) hn.1 (by omega)
 have bh:=ediv_bd (a:=W.hi) hn.1 (by omega)
 have hle:W.lo / n≤W.hi / n:=Int.ediv_le_ediv (by omega) (by omega)
 have h1:=restL_one hr hn
 have hlen:(restL r.l n).length≤128:=by
  have:=restL_len r.l n
  have:=hr.2.2
  omega
 unfold zW
 rw [check_iff.2 hr,in_iff.2 hn,decide_eq_false (show ¬ W.lo > W.hi by omega),area_iff.2 (show Ar W.lo from ⟨by omega,by omega⟩),area_iff.2 (show Ar W.hi from ⟨by omega,by omega⟩),down_eq n1 (by omega),down_eq n1 (by omega),y7 (n:=W.hi / n - W.lo / n) (by omega) (by omega)]
 simp only [bne_self_eq_false,cond_false,cond_true]
 have e:=ranges_each_3p5_eq n r.l
 rw [rs5_eq hr hn] at e
 have rest:restL r.l n ≠ []→∀ z:GS Sn × Int,z=(bif ranges_full (GS.some (restL r.l n)) n then ((GS.some [W],0):GS Sn × Int) else bif decide (W.hi / n - W.lo / n > 66) then ((GS.nil,2):GS Sn × Int) else
   match zP n W (restL r.l n) (W.hi / n) ((W.hi / n - W.lo / n).toNat+2) (W.lo / n) with
   | .x0 _ w _=>(match zD (zq zo w) 0 with
    | .x0 v=>bif decide (((v.length:Nat):Int) > 64) then ((GS.nil,2):GS Sn × Int) else ((GS.some v,0):GS Sn × Int)
    | .x3=>((GS.nil,0):GS Sn × Int)
    | _=>((GS.nil,2):GS Sn × Int))
   | .x1 _=>((GS.nil,0):GS Sn × Int)
   | .out=>default)→((∀ y,0≤y→y < n→In (restL r.l n) y)∧z=(GS.some [W],0)) ∨ (¬ (∀ y,0≤y→y < n→In (restL r.l n) y)∧((66 < W.hi / n - W.lo / n∧z=(GS.nil,2)) ∨ GR (pL n W (restL r.l n) (W.hi / n+1 - W.lo / n).toNat (W.lo / n)) z)):=fun hne z hz=>by
  have hf:=full_iff (l:=GS.some (restL r.l n)) hn h1
  rw [GS.some_l] at hf
  subst hz
  cases hfull:ranges_full (GS.some (restL r.l n)) n with
  | true=>exact .inl ⟨hf.1 hfull,rfl⟩
  | false =>
   refine .inr ⟨fun h=>?_,?_⟩
   ·rw [hf.2 h] at hfull; cases hfull
   ·rw [cond_false]
    by_cases hd:W.hi / n - W.lo / n > 66
    ·rw [decide_eq_true hd]
     exact .inl ⟨hd,rfl⟩
    ·rw [decide_eq_false hd,cond_false]
     right
     have hpl:=pL_len (n:=n) (W:=W) (one:=restL r.l n) (W.hi / n+1 - W.lo / n).toNat (W.lo / n)
     have hpl2:=Nat.mul_le_mul (show (W.hi / n+1 - W.lo / n).toNat≤67 by omega) hlen
     rcases t16_eq (W:=W) hn (q:=W.hi / n) (by omega) h1 ((W.hi / n - W.lo / n).toNat+2) (W.lo / n) (by omega) (by omega) (by omega) with ⟨v',e⟩ | ⟨he,v',e⟩ <;> rw [e] <;> dsimp only
     ·by_cases hp:pL n W (restL r.l n) (W.hi / n+1 - W.lo / n).toNat (W.lo / n)=[]
      ·rw [hp]
       have hs:zq zo ([]:List Sn)=[]:=List.length_eq_zero_iff.1 (by rw [srtG_len gcmp_lo]; rfl)
       rw [hs]
       exact GR_nil
      ·generalize pL n W (restL r.l n) (W.hi / n+1 - W.lo / n).toNat (W.lo / n)=q at *
       rcases ranges_gathered_4p3_at (l:=q) hp (by omega) with ⟨g1,g2⟩ | ⟨g1,g2⟩
       ·rw [g2]; exact GR_end g1
       ·refine .inr ⟨.inl g1,?_⟩
        revert g2
        cases zD (zq zo q) 0 <;> intro g2 <;> first | rfl | cases g2
     ·rw [he]; exact GR_nil
 have hz:restL r.l n ≠ []→(((((restL r.l n).length:Nat):Int)) == 0)=false:=fun hne=>by
  have:=List.length_pos_iff.2 hne
  simp; exact hne
 rcases e with ⟨k1,k2 | k2⟩ | ⟨k1,k2 | k2⟩ <;> rw [k2] <;> dsimp only
 ·exact .inl ⟨k1,rfl⟩
 ·exact .inl ⟨k1,rfl⟩
 ·rw [hz k1,cond_false]
  right
  refine (rest k1 _ ?_).elim (fun h=>.inl ⟨k1,h⟩) (fun h=>.inr ⟨k1,h⟩)
  cases zP n W (restL r.l n) (W.hi / n) ((W.hi / n - W.lo / n).toNat+2) (W.lo / n) with
  | x0 a w c=>dsimp only; cases zD (zq zo w) 0 <;> rfl
  | x1 _=>rfl
  | out=>rfl
 ·rw [hz k1,cond_false]
  right
  refine (rest k1 _ ?_).elim (fun h=>.inl ⟨k1,h⟩) (fun h=>.inr ⟨k1,h⟩)
  cases zP n W (restL r.l n) (W.hi / n) ((W.hi / n - W.lo / n).toNat+2) (W.lo / n) with
  | x0 a w c=>dsimp only; cases zD (zq zo w) 0 <;> rfl
  | x1 _=>rfl
  | out=>rfl
theorem turns_ref:((zf r n).l=[]∧r_Turns r n W=(GS.nil,0)) ∨ ((zf r n).l=[⟨0,n - 1⟩]∧r_Turns r n W=(GS.some [W],0)) ∨
  (Rm n (zf r n).l∧∃ res,Ends n W (zf r n).l [] ((W.hi - n * (W.lo / n)).toNat+2) (n * (W.lo / n)) res∧GR res (r_Turns r n W)):=by
 obtain ⟨w1,w2,w3⟩:=hW
 have n1:=hn.1
 have n2:=hn.2
 have hle:∀ x∈r.l,x.lo≤x.hi:=fun x hx=>cn_mem hr.1 hx
 have hc:=can_rg gcmp_lo (bd_ne (restL_Bd hle hn))
 have hl:=rRests_l hr hn
 rw [← hl] at hc
 have hlen:=rrests_len r n hr.2.2 hn
 have hbd:∀ s∈(zf r n).l,0≤s.lo∧s.lo≤s.hi∧s.hi < n:=fun s hs=>by
  have h0:=cn_mem hc.1 hs
  obtain ⟨t,ht,k1,k2⟩:=(hc.2 s.lo).1 ⟨s,hs,Int.le_refl _,h0⟩
  obtain ⟨u,hu,k3,k4⟩:=(hc.2 s.hi).1 ⟨s,hs,h0,Int.le_refl _⟩
  have b1:=restL_one hr hn t ht
  have b2:=restL_one hr hn u hu
  omega
 have md:=mul_down (a:=W.lo) n1
 unfold r_Turns
 rw [valid_iff.2 hr,decide_eq_false (show ¬ n < 1 by omega),decide_eq_false (show ¬ n > 10000 by omega),decide_eq_false (show ¬ W.lo < -1099511627776 by omega),decide_eq_false (show ¬ W.lo > W.hi by omega),decide_eq_false (show ¬ W.hi > 1099511627776 by omega),rdown_eq n1 (by omega),y7 (n:=n * (W.lo / n)) (by omega) (by omega),y7 (n:=n - 1) (by omega) (by omega)]
 simp only [cond_false,cond_true]
 have hof:y5 n W (zf r n) ((W.hi - n * (W.lo / n)).toNat+2) (n * (W.lo / n)) ≠ .out:=zU n W (zf r n) _ hn ⟨by omega,by omega,w3⟩
 have hq:=rU12_len (n:=n) (W:=W) hlen ((W.hi - n * (W.lo / n)).toNat+2) (n * (W.lo / n))
 have loop:Rm n (zf r n).l→Ends n W (zf r n).l [] ((W.hi - n * (W.lo / n)).toNat+2) (n * (W.lo / n)) (rU_r (y5 n W (zf r n) ((W.hi - n * (W.lo / n)).toNat+2) (n * (W.lo / n)))):=fun hm =>
  rT12_eq hn w3 hm hlen ((W.hi - n * (W.lo / n)).toNat+2) (n * (W.lo / n)) (by omega) (by omega) fun _=>⟨⟨(fun s hs=>by cases hs),List.Pairwise.nil⟩,(fun t ht=>by cases ht),.inl rfl,by omega,fun _=>rfl,fun _=>by simp [mg]⟩
 have bdr:∀ res,Ends n W (zf r n).l [] ((W.hi - n * (W.lo / n)).toNat+2) (n * (W.lo / n)) res→Bd res:=fun res h=>by
  rcases h with h | ⟨_,hso,B,h⟩
  ·rw [h,List.nil_append]
   exact refL_bd ⟨w1,w2,w3⟩ _ _
  ·intro s hs
   have h0:=hso.1 s hs
   have k1:=((h s.lo).1 ⟨s,hs,Int.le_refl _,h0⟩).1
   have k2:=((h s.hi).1 ⟨s,hs,h0,Int.le_refl _⟩).1
   rw [List.nil_append] at k1 k2
   obtain ⟨t,ht,k3,k4⟩:=k1
   obtain ⟨u,hu,k5,k6⟩:=k2
   have b1:=refL_bd (W:=W) ⟨w1,w2,w3⟩ _ _ t ht
   have b2:=refL_bd (W:=W) ⟨w1,w2,w3⟩ _ _ u hu
   omega
 have fit:∀ w:List Sn,w.length≤384→Bd w→GR w (zw (JJ (GS.some w))):=fun w h1 h2=>fit_gr (l:=GS.some w) (by rw [GS.some_l]; omega) h2
 have fin:Rm n (zf r n).l→∀ z:GS Sn × Int,(match y5 n W (zf r n) ((W.hi - n * (W.lo / n)).toNat+2) (n * (W.lo / n)) with
   | .x0 _ w=>z=zw (JJ (GS.some w))
   | .x1 w _=>z=zw (JJ (GS.some w))
   | .x2 _ w=>z=zw (JJ (GS.some w))
   | .x3 _=>z=zw (JJ GS.nil)
   | .x4 _=>z=zw (JJ GS.nil)
   | .out=>True)→∃ res,Ends n W (zf r n).l [] ((W.hi - n * (W.lo / n)).toNat+2) (n * (W.lo / n)) res∧GR res z:=fun hm z hz=>by
  refine ⟨_,loop hm,?_⟩
  have hb:=bdr _ (loop hm)
  generalize y5 n W (zf r n) ((W.hi - n * (W.lo / n)).toNat+2) (n * (W.lo / n))=R at *
  cases R <;> simp only [rU_r] at * <;> first | (rw [hz]; exact fit _ hq hb) | (rw [hz]; exact nil_gr) | exact absurd rfl hof
 by_cases he:(zf r n).l=[]
 ·left
  refine ⟨he,?_⟩
  rw [he]; rfl
 ·have hp:=List.length_pos_iff.2 he
  have hz:((((zf r n).l.length:Nat):Int) == 0)=false:=by simp; exact he
  rw [hz]
  simp only [cond_false]
  right
  have h0:GS.at (zf r n) 0=(zf r n).l.head he:=by
   show (zf r n).l.getD 0 default=_
   rw [List.getD_eq_getElem?_getD,List.getElem?_eq_getElem hp,List.head_eq_getElem]; rfl
  have whole:∀ s∈(zf r n).l,s.lo=0→s.hi=n - 1→(zf r n).l=[⟨0,n - 1⟩]:=fun s hs h1 h2=>by
   refine cn_unique hc.1 ⟨by simp only; omega,(fun t ht=>by cases ht),trivial⟩ fun y=>⟨fun ⟨t,ht,k1,k2⟩=>In_cons.2 (.inl (by have:=hbd t ht; simp only; omega)),fun h=>?_⟩
   rcases In_cons.1 h with ⟨k1,k2⟩ | h
   ·simp only at k1 k2
    exact ⟨s,hs,by omega,by omega⟩
   ·exact absurd h In_nil
  by_cases hf:(zf r n).l=[⟨0,n - 1⟩]
  ·left
   refine ⟨hf,?_⟩
   have hh:(zf r n).l.head he=⟨0,n - 1⟩:=by simp [hf]
   rw [h0,hh]
   simp
  ·right
   have hm:Rm n (zf r n).l:=⟨hc.1,hbd,he,fun s hs h=>hf (whole s hs h.1 h.2)⟩
   refine ⟨hm,?_⟩
   have hh:((((zf r n).at 0).lo == 0)=false ∨ (((zf r n).at 0).hi == n - 1)=false):=by
    rw [h0]
    have hd:=List.head_mem he
    by_cases k1:((zf r n).l.head he).lo=0
    ·right
     simp only [beq_eq_false_iff_ne,ne_eq]
     exact fun k2=>hf (whole _ hd k1 k2)
    ·left
     simp only [beq_eq_false_iff_ne,ne_eq]
     exact k1
   refine fin hm _ ?_
   rcases hh with h | h
   ·rw [h]
    cases y5 n W (zf r n) ((W.hi - n * (W.lo / n)).toNat+2) (n * (W.lo / n)) <;> simp [Bool.cond_self]
   ·rw [h]
    cases (((zf r n).at 0).lo == 0) <;> cases y5 n W (zf r n) ((W.hi - n * (W.lo / n)).toNat+2) (n * (W.lo / n)) <;> simp [Bool.cond_self]
end
end Go.VS

namespace Go.VS
open Go
set_option maxHeartbeats 0
theorem far_many {n:Int} {W:Sn} {l L:List Sn} (hl:Rm n l) (hfar:66 < W.hi / n - W.lo / n) (hL:cn L) (hi:∀ y,In L y↔TurnS n W l y):64 < L.length:=by
 obtain ⟨s,hs⟩:∃ s,s∈l:=List.exists_mem_of_ne_nil _ hl.ne
 have hb:=hl.bd s hs
 have hn:1≤n:=by omega
 obtain ⟨g,g1,g2,g3⟩:∃ g,0≤g∧g < n∧¬ In l g:=Classical.byContradiction fun h=>by
  have hall:∀ y,0≤y→y < n→In l y:=fun y h1 h2=>Classical.byContradiction fun h3=>h ⟨y,h1,h2,h3⟩
  have e:l=[⟨0,n - 1⟩]:=by
   refine cn_unique hl.c ⟨by simp only; omega,(fun t ht=>by cases ht),trivial⟩ fun y=>⟨fun ⟨t,ht,k1,k2⟩=>In_cons.2 (.inl (by have:=hl.bd t ht; simp only; omega)),fun h=>?_⟩
   rcases In_cons.1 h with ⟨k1,k2⟩ | h
   ·simp only at k1 k2
    exact hall y (by omega) (by omega)
   ·exact absurd h In_nil
  exact hl.nf ⟨0,n - 1⟩ (by rw [e]; simp) ⟨rfl,rfl⟩
 have hgs:g ≠ s.lo:=fun h=>g3 ⟨s,hs,by omega,by omega⟩
 obtain ⟨d,d1,d2,d3⟩:∃ d,0 < d∧d < n∧(s.lo+d=g ∨ s.lo+d=g+n):=by
  by_cases h:s.lo < g
  ·exact ⟨g - s.lo,by omega,by omega,.inl (by omega)⟩
  ·exact ⟨g - s.lo+n,by omega,by omega,.inr (by omega)⟩
 have ml:=mul_down (a:=W.lo) hn
 have mh:=mul_down (a:=W.hi) hn
 have st:∀ j:Nat,n * (W.lo / n+1+(j+1:Nat))=n * (W.lo / n+1+j)+n:=fun j=>by
  rw [show W.lo / n+1+((j+1:Nat):Int)=W.lo / n+1+j+1 by omega,Int.mul_add,Int.mul_one]
 have lowj:∀ j:Nat,n * (W.lo / n)+n≤n * (W.lo / n+1+j):=fun j=>by
  have:=Int.mul_le_mul_of_nonneg_left (show W.lo / n+1≤W.lo / n+1+j by omega) (show 0≤n by omega)
  rw [Int.mul_add,Int.mul_one] at this
  exact this
 have highj:∀ j:Nat,j < 65→n * (W.lo / n+1+j)+n≤n * (W.hi / n):=fun j hj=>by
  have:=Int.mul_le_mul_of_nonneg_left (show W.lo / n+1+j+1≤W.hi / n by omega) (show 0≤n by omega)
  rw [Int.mul_add n (W.lo / n+1+j),Int.mul_one] at this
  exact this
 have md:∀ j t:Int,0≤t→t < n→(n * j+t) % n=t:=fun j t h1 h2=>by
  rw [Int.add_comm,Int.add_mul_emod_self_left]
  exact Int.emod_eq_of_lt h1 h2
 have:=cn_count hL 65 (fun j=>n * (W.lo / n+1+j)+s.lo) (fun j=>n * (W.lo / n+1+j)+s.lo+d) (fun j hj=>?_) (fun j hj=>?_)
 ·omega
 ·have h1:=lowj j
  have h2:=highj j hj
  refine (hi _).2 ⟨by omega,by omega,?_⟩
  rw [md _ _ (by omega) (by omega)]
  exact ⟨s,hs,Int.le_refl _,by omega⟩
 ·refine ⟨fun h=>?_,by omega,by simp only [st]; omega⟩
  have h:=((hi _).1 h).2.2
  rcases d3 with e | e
  ·rw [Int.add_assoc,e,md _ _ g1 g2] at h
   exact g3 h
  ·rw [Int.add_assoc,e,show n * (W.lo / n+1+(j:Int))+(g+n)=n * (W.lo / n+1+j+1)+g by rw [Int.mul_add n (W.lo / n+1+(j:Int)),Int.mul_one]; omega,md _ _ g1 g2] at h
   exact g3 h
theorem gr_many {l:List Sn} {z:GS Sn × Int} (h:GR l z) (hm:64 < (can zo l).length):z=(GS.nil,2):=by
 rcases h with ⟨_,h,_⟩ | ⟨_,h⟩
 ·omega
 ·exact h
theorem same_Turns (r:GS Sn) (n:Int) (W:Sn):l_same (zW r n W).1 (zW r n W).2 (r_Turns r n W).1 (r_Turns r n W).2=true:=by
 by_cases hr:Ok r.l
 rotate_left
 ·obtain ⟨h1,h2⟩:=turns_no (n:=n) (W:=W) hr
  exact same_eq (by rw [h1,h2])
 by_cases hv:NOk n∧WOk W
 rotate_left
 ·obtain ⟨h1,h2⟩:=turns_bad hr hv
  exact same_eq (by rw [h1,h2])
 obtain ⟨hn,hW⟩:=hv
 have n1:=hn.1
 have hle:∀ x∈r.l,x.lo≤x.hi:=fun x hx=>cn_mem hr.1 hx
 have hc:=can_rg gcmp_lo (bd_ne (restL_Bd hle hn))
 have hl:=rRests_l hr hn
 rw [← hl] at hc
 have h1:=restL_one hr hn
 have hTS:∀ y,TurnS n W (restL r.l n) y↔TurnS n W (zf r n).l y:=fun y=>by unfold TurnS; rw [hc.2]
 rcases turns_prog hr hn hW with ⟨p1,p2⟩ | ⟨p1,p2,p3⟩ | ⟨p1,p2,p3⟩
 ·rcases turns_ref hr hn hW with ⟨q1,q2⟩ | ⟨q1,q2⟩ | ⟨q1,q2⟩
  ·exact same_eq (by rw [p2,q2])
  ·exfalso
   have:=(hc.2 0).1 (by rw [q1]; exact In_cons.2 (.inl ⟨by simp,by simp only; omega⟩))
   rw [p1] at this; exact In_nil this
  ·exfalso
   obtain ⟨s,hs⟩:=List.exists_mem_of_ne_nil _ q1.ne
   have:=(hc.2 s.lo).1 ⟨s,hs,Int.le_refl _,(q1.bd s hs).2.1⟩
   rw [p1] at this; exact In_nil this
 ·have hall:(zf r n).l=[⟨0,n - 1⟩]:=by
   refine cn_unique hc.1 ⟨by simp only; omega,(fun t ht=>by cases ht),trivial⟩ fun y=>⟨fun h=>?_,fun h=>?_⟩
   ·obtain ⟨t,ht,k1,k2⟩:=(hc.2 y).1 h
    have:=h1 t ht
    exact In_cons.2 (.inl ⟨by simp only; omega,by simp only; omega⟩)
   ·rcases In_cons.1 h with ⟨k1,k2⟩ | h
    ·simp only at k1 k2
     exact (hc.2 y).2 (p2 y (by omega) (by omega))
    ·exact absurd h In_nil
  rcases turns_ref hr hn hW with ⟨q1,q2⟩ | ⟨q1,q2⟩ | ⟨q1,q2⟩
  ·rw [hall] at q1; cases q1
  ·exact same_eq (by rw [p3,q2])
  ·exact absurd ⟨rfl,rfl⟩ (q1.nf ⟨0,n - 1⟩ (by rw [hall]; simp))
 ·rcases turns_ref hr hn hW with ⟨q1,q2⟩ | ⟨q1,q2⟩ | ⟨q1,res,q2,q3⟩
  ·exfalso
   obtain ⟨s,hs⟩:=List.exists_mem_of_ne_nil _ p1
   have:=(hc.2 s.lo).2 ⟨s,hs,Int.le_refl _,(h1 s hs).2.1⟩
   rw [q1] at this; exact In_nil this
  ·exfalso
   refine p2 fun y k1 k2=>(hc.2 y).1 ?_
   rw [q1]
   exact In_cons.2 (.inl ⟨by simp only; omega,by simp only; omega⟩)
  ·have md:=mul_down (a:=W.lo) n1
   have href:∀ y,In (refL W n (zf r n).l ((W.hi - n * (W.lo / n)).toNat+2) (n * (W.lo / n))) y↔TurnS n W (zf r n).l y:=fun y=>by
    rw [In_refL n1 q1.bd _ _ _ (by omega)]
    unfold TurnS
    constructor
    ·rintro ⟨k1,k2,_,k4⟩; exact ⟨k1,k2,k4⟩
    ·rintro ⟨k1,k2,k4⟩; exact ⟨k1,k2,by omega,k4⟩
   have hpl:∀ y,In (pL n W (restL r.l n) (W.hi / n+1 - W.lo / n).toNat (W.lo / n)) y↔TurnS n W (zf r n).l y:=fun y=>by rw [In_turns n1 hW.2.1 h1,hTS]
   have pne:=pL_ne (n:=n) (W:=W) (one:=restL r.l n) (W.hi / n+1 - W.lo / n).toNat (W.lo / n)
   rcases q2 with q2 | ⟨q4,q5,B,q6⟩
   ·rw [List.nil_append] at q2
    have rne:∀ s∈res,s.lo≤s.hi:=by rw [q2]; exact bd_ne (refL_bd hW _ _)
    have hres:∀ y,In res y↔TurnS n W (zf r n).l y:=by rw [q2]; exact href
    rcases p3 with ⟨p4,p5⟩ | p4
    ·have hcr:=can_rg gcmp_lo rne
     have:=far_many q1 p4 hcr.1 fun y=>by rw [hcr.2,hres]
     exact same_eq (by rw [p5,gr_many q3 this])
    ·exact same_of (p4.det q3 pne rne fun y=>by rw [hpl,hres])
   ·rw [gr_many q3 q4]
    rcases p3 with ⟨p4,p5⟩ | p4
    ·exact same_eq (by rw [p5])
    ·have hcp:=can_rg gcmp_lo pne
     have hcr:=can_rg gcmp_lo q5.1
     have:=cut_spans (B:=B) hcp.1 hcr.1 fun y=>by rw [hcr.2,hcp.2,q6,List.nil_append,href,hpl]
     exact same_eq (by rw [gr_many p4 (by omega)])
theorem len_Turns (r:GS Sn) (n:Int) (W:Sn):(zW r n W).1.l.length≤9223372036854775807:=by
 by_cases hr:Ok r.l
 ·by_cases hv:NOk n∧WOk W
  ·rcases turns_prog hr hv.1 hv.2 with ⟨_,h⟩ | ⟨_,_,h⟩ | ⟨_,_,⟨_,h⟩ | h⟩
   ·rw [h]; exact short_nil
   ·rw [h]; simp [GS.some_l]
   ·rw [h]; exact short_nil
   ·exact Nat.le_trans (gr_len h) (by decide)
  ·rw [(turns_bad hr hv).1]; exact short_nil
 ·rw [(turns_no (n:=n) (W:=W) hr).1]; exact short_nil
end Go.VS

namespace Go.VS
open Go Go.Proofs
set_option maxHeartbeats 0
set_option linter.unusedSimpArgs false
set_option linter.unusedVariables false
def l_RangesDials (r:GS Sn) (n:Int) (within:Sn):Bool :=
 bif decide (((r.l.length:Nat):Int) > 2000) then
  true
 else
  true

theorem T_l_RangesDials (r:GS Sn) (n:Int) (within:Sn) (hLr:r.l.length≤9223372036854775807):(lim cfg).pure 4 [GS.D Sn.D 2 r,I n,Sn.D within]=some (B (l_RangesDials r n within)):=by
 unfold l_RangesDials
 cases h1:decide (((r.l.length:Nat):Int) > 2000) with
 | true =>
  have g1:=of_decide_eq_true h1
  exact zk [.pure (B true),.dec true,.rw 18 (I ((r.l.length:Nat):Int)),.dec true] (Ai h1 (Ai (zj Sn.D r) (Ai (Eq.refl true) (Ai sane_ok trivial)))) (by kernel_rfl)
 | false =>
  have g1:=of_decide_eq_false h1
  exact zk [.pure (B true),.dec true,.rw 18 (I ((r.l.length:Nat):Int)),.dec false,.pure (.tup [.sl (((zW r n within).1).nl) ((((zW r n within).1).l).map Sn.D) (zsl (((zW r n within).1).nl) 2) none,I ((zW r n within).2)]),.pure (.tup [.sl (((r_Turns r n within).1).nl) ((((r_Turns r n within).1).l).map Sn.D) (zsl (((r_Turns r n within).1).nl) 2) none,I ((r_Turns r n within).2)]),.pure (.tup [.sl (((yh r n).1).nl) ((((yh r n).1).l).map Sn.D) (zsl (((yh r n).1).nl) 2) none,I ((yh r n).2)]),.pure (.tup [.sl (((r_Rest r n).1).nl) ((((r_Rest r n).1).l).map Sn.D) (zsl (((r_Rest r n).1).nl) 2) none,I ((r_Rest r n).2)]),.pure (B (l_same ((zW r n within).1) ((zW r n within).2) ((r_Turns r n within).1) ((r_Turns r n within).2))),.dec true,.pure (B (l_same ((yh r n).1) ((yh r n).2) ((r_Rest r n).1) ((r_Rest r n).2))),.dec true] (Ai (show (l_same ((yh r n).1) ((yh r n).2) ((r_Rest r n).1) ((r_Rest r n).2))=true from (same_Rest r n)) (Ai (T_l_same ((yh r n).1) ((yh r n).2) ((r_Rest r n).1) ((r_Rest r n).2) (len_Rest r n)) (Ai (show (l_same ((zW r n within).1) ((zW r n within).2) ((r_Turns r n within).1) ((r_Turns r n within).2))=true from (same_Turns r n within)) (Ai (T_l_same ((zW r n within).1) ((zW r n within).2) ((r_Turns r n within).1) ((r_Turns r n within).2) (len_Turns r n within)) (Ai (T_r_Rest r n (by first | assumption | omega | (exact two_bd (by omega) (by omega)) | (exact add_some (by omega)) | (exact add_some' (by omega)) | (exact one_some (by omega)) | (exact one_some' (by omega)) | (exact outside_len _ (by omega)) | (simp only [zi] at * <;> omega) | (simp only [zY,GS.some_l,List.length_set,List.length_append,List.length_cons,List.length_nil] at * <;> first | with_reducible assumption | omega) | (simp only [zY,GS.some_l,List.length_set,List.length_append,List.length_cons,List.length_nil,zi] at * <;> first | with_reducible assumption | omega) | (simp at * <;> omega)) (by first | assumption | omega | (exact two_bd (by omega) (by omega)) | (exact add_some (by omega)) | (exact add_some' (by omega)) | (exact one_some (by omega)) | (exact one_some' (by omega)) | (exact outside_len _ (by omega)) | (simp only [zi] at * <;> omega) | (simp only [zY,GS.some_l,List.length_set,List.length_append,List.length_cons,List.length_nil] at * <;> first | with_reducible assumption | omega) | (simp only [zY,GS.some_l,List.length_set,List.length_append,List.length_cons,List.length_nil,zi] at * <;> first | with_reducible assumption | omega) | (simp at * <;> omega))) (Ai (T_ranges_Rest r n (by first | assumption | omega | (exact two_bd (by omega) (by omega)) | (exact add_some (by omega)) | (exact add_some' (by omega)) | (exact one_some (by omega)) | (exact one_some' (by omega)) | (exact outside_len _ (by omega)) | (simp only [zi] at * <;> omega) | (simp only [zY,GS.some_l,List.length_set,List.length_append,List.length_cons,List.length_nil] at * <;> first | with_reducible assumption | omega) | (simp only [zY,GS.some_l,List.length_set,List.length_append,List.length_cons,List.length_nil,zi] at * <;> first | with_reducible assumption | omega) | (simp at * <;> omega)) (by first | assumption | omega | (exact two_bd (by omega) (by omega)) | (exact add_some (by omega)) | (exact add_some' (by omega)) | (exact one_some (by omega)) | (exact one_some' (by omega)) | (exact outside_len _ (by omega)) | (simp only [zi] at * <;> omega) | (simp only [zY,GS.some_l,List.length_set,List.length_append,List.length_cons,List.length_nil] at * <;> first | with_reducible assumption | omega) | (simp only [zY,GS.some_l,List.length_set,List.length_append,List.length_cons,List.length_nil,zi] at * <;> first | with_reducible assumption | omega) | (simp at * <;> omega))) (Ai (T_r_Turns r n within (by first | assumption | omega | (exact two_bd (by omega) (by omega)) | (exact add_some (by omega)) | (exact add_some' (by omega)) | (exact one_some (by omega)) | (exact one_some' (by omega)) | (exact outside_len _ (by omega)) | (simp only [zi] at * <;> omega) | (simp only [zY,GS.some_l,List.length_set,List.length_append,List.length_cons,List.length_nil] at * <;> first | with_reducible assumption | omega) | (simp only [zY,GS.some_l,List.length_set,List.length_append,List.length_cons,List.length_nil,zi] at * <;> first | with_reducible assumption | omega) | (simp at * <;> omega))) (Ai (T_ranges_Turns r n within (by first | assumption | omega | (exact two_bd (by omega) (by omega)) | (exact add_some (by omega)) | (exact add_some' (by omega)) | (exact one_some (by omega)) | (exact one_some' (by omega)) | (exact outside_len _ (by omega)) | (simp only [zi] at * <;> omega) | (simp only [zY,GS.some_l,List.length_set,List.length_append,List.length_cons,List.length_nil] at * <;> first | with_reducible assumption | omega) | (simp only [zY,GS.some_l,List.length_set,List.length_append,List.length_cons,List.length_nil,zi] at * <;> first | with_reducible assumption | omega) | (simp at * <;> omega))) (Ai h1 (Ai (zj Sn.D r) (Ai (Eq.refl true) (Ai sane_ok trivial)))))))))))) (by kernel_rfl)
end Go.VS

namespace Go.VS
open Go Go.Proofs Go.RowKit Go.ChangeShapes Go.WideShapes
set_option maxRecDepth 100000
theorem laid_out:laidOutB Tryz.prog=true:=by kernel_rfl
theorem maps_rowed:mapsRowed Tryz.prog=true:=by kernel_rfl
theorem sl_full:∀ t e,t < Tryz.prog.types.size→Tryz.prog.underlying t=some (.slice e)→0 < Tryz.prog.cellsOf e:=slices_full_of Tryz.prog (by kernel_rfl)
theorem i64_min:IntKind.i64.min=-9223372036854775808:=by rfl
theorem i64_max:IntKind.i64.max=9223372036854775807:=by rfl
def R64 (n:Int):Prop:=-9223372036854775808≤n∧n≤9223372036854775807
section
variable {H:Type} {enc:TypeId × Value→H} {w:World} {base base':Nat} {sp:Nat→Bool} {held:Bool} {t:TypeId} {v:Value} {d:DataW H} {p:List MemPlace} {r:Reach}
theorem arg_rep (h:DataW.Trod enc Tryz.prog w base sp held t v d p) (hv:Value.okWide Tryz.prog w r base' t v) (ht:topT cfg 8 t=true) (hr:rowedT cfg 8 t=true) :
  ∃ ds,zB (memOf w) noLoc ds v.cells.toList∧Sh cfg 8 t ds:=by
 obtain ⟨n,hn⟩:=h
 exact trod_rep (C:=cfg) (fun t ty h=>tyTab_ok.find h) 8 n t _ _ hn ht hr (.inl (plain_arg hv))
theorem repL_one {M:Mem} {m:Loc} {d:D} {cs:List Value} (h:zB M m [d] cs):∃ v,cs=[v]∧Rep M m d v:=by
 simp only [zB] at h
 obtain ⟨v,r,h1,h2,rfl⟩:=h
 exact ⟨v,h1,h2⟩
theorem one_cell {x u:Value} (h:x.cells.toList=[u]) (hp:∀ cs,x ≠ .agg cs):x=u:=by
 cases x <;> simp [Value.cells] at h <;> first | exact h | exact absurd rfl (hp _)
theorem ok_notAgg (hv:Value.okWide Tryz.prog w r base' t v) (hs:∀ fs,Tryz.prog.underlying t ≠ some (.struct fs)) (ha:∀ n e,Tryz.prog.underlying t ≠ some (.array n e)):∀ cs,v ≠ .agg cs:=by
 rintro cs rfl
 unfold Value.okWide at hv
 split at hv
 ·rename_i h; exact hs _ h
 ·rename_i h; exact ha _ _ h
 ·unfold Cell.okWide at hv
  split at hv <;> try (rename_i h1 h2; cases h2; done)
  unfold Cell.ok at hv
  split at hv <;> first | (rename_i h1 h2; cases h2; done) | cases hv
theorem agg_of (hv:Value.okWide Tryz.prog w r base' t v) (hs:(∃ fs,Tryz.prog.underlying t=some (.struct fs)) ∨ (∃ n e,Tryz.prog.underlying t=some (.array n e))):∃ cs,v=.agg cs:=by
 unfold Value.okWide at hv
 rcases hs with ⟨fs,hs⟩ | ⟨n,e,hs⟩ <;> rw [hs] at hv <;> simp only [] at hv <;> obtain ⟨cs,rfl,_⟩:=hv <;> exact ⟨cs,rfl⟩
end
theorem sh3 {f:Nat} {ds:List D} (h:Sh cfg (f+1) 3 ds):∃ x:Int,ds=[I x]∧R64 x:=by
 rw [Sh,cfg_ty,cty3] at h
 simp only [ty3] at h
 obtain ⟨n,h1,h2,h3⟩:=h
 rw [i64_min] at h2
 rw [i64_max] at h3
 exact ⟨n,h1,h2,h3⟩
theorem sh25 {f:Nat} {ds:List D} (h:Sh cfg (f+2) 25 ds):∃ x:Sn,ds=[I x.lo,I x.hi]∧True:=by
 rw [Sh,cfg_ty,cty25] at h
 simp only [zM] at h
 obtain ⟨hl,hf⟩:=h
 obtain ⟨t0,q0,z0⟩:=hf (3,0) (by simp)
 obtain rfl:t0=ty3:=(Option.some.inj (cty3.symm.trans q0)).symm
 obtain ⟨x0,e0,r0⟩:=sh3 (f:=f+0) z0
 obtain ⟨t1,q1,z1⟩:=hf (3,1) (by simp)
 obtain rfl:t1=ty3:=(Option.some.inj (cty3.symm.trans q1)).symm
 obtain ⟨x1,e1,r1⟩:=sh3 (f:=f+0) z1
 rcases ds with _ | ⟨c0,_ | ⟨c1,_ | ⟨y,r⟩⟩⟩
 all_goals simp at hl
 simp [ty3] at e0
 simp [ty3] at e1
 exact ⟨⟨x0,x1⟩,by simp [*],trivial⟩
theorem sh23 {f:Nat} {ds:List D} (h:Sh cfg (f+3) 23 ds):∃ x:GS Sn,ds=[.sl x.nl (x.l.map Sn.D) (zsl x.nl 2) none]∧x.l.length≤9223372036854775807:=by
 rw [Sh,cfg_ty,cty23] at h
 simp only [ty23] at h
 rcases h with h | ⟨els,te,h1,h2,h3,h4⟩
 ·exact ⟨GS.nil,h,by simp [GS.nil]⟩
 ·obtain rfl:te=zM:=(Option.some.inj (cty25.symm.trans h1)).symm
  have key:∀ els:List D,(∀ d∈els,Sh cfg (f+2) 25 d.cells∧(zM.isAgg=true→d=.agg d.cells)∧(zM.isAgg=false→d.cells=[d]))→∃ l:List Sn,els=l.map Sn.D:=by
   intro els
   induction els with
   | nil=>intro _; exact ⟨[],rfl⟩
   | cons d els ih =>
    intro hd
    obtain ⟨l,hl⟩:=ih fun d' h'=>hd d' (List.mem_cons_of_mem _ h')
    obtain ⟨q1,q2,q3⟩:=hd d (by simp)
    obtain ⟨a,e,_⟩:=sh25 (f:=f+0) q1
    have hx:d=Sn.D a:=by rw [q2 rfl,e]; rfl
    exact ⟨a::l,by rw [List.map_cons,← hx,← hl]⟩
  obtain ⟨l,rfl⟩:=key els h4
  refine ⟨GS.some l,h2,?_⟩
  simp only [List.length_map,maxLen] at h3
  simp only [GS.some]
  omega
theorem arg23 {H:Type} {enc:TypeId × Value→H} {w:World} {base base':Nat} {sp:Nat→Bool} {held:Bool} {v:Value} {d:DataW H} {p:List MemPlace} {r:Reach} (h:DataW.Trod enc Tryz.prog w base sp held 23 v d p) (hv:Value.okWide Tryz.prog w r base' 23 v):∃ x:GS Sn,Rep (memOf w) noLoc (GS.D Sn.D 2 x) v∧x.l.length≤9223372036854775807:=by
 obtain ⟨ds,h1,h2⟩:=arg_rep h hv (by kernel_rfl) (by kernel_rfl)
 obtain ⟨x,rfl,hx⟩:=sh23 (f:=5) h2
 obtain ⟨u,e,hu⟩:=repL_one h1
 exact ⟨x,by rw [one_cell e (ok_notAgg hv (by rw [Tryz.underlying23]; simp) (by rw [Tryz.underlying23]; simp))]; exact hu,hx⟩
theorem arg25 {H:Type} {enc:TypeId × Value→H} {w:World} {base base':Nat} {sp:Nat→Bool} {held:Bool} {v:Value} {d:DataW H} {p:List MemPlace} {r:Reach} (h:DataW.Trod enc Tryz.prog w base sp held 25 v d p) (hv:Value.okWide Tryz.prog w r base' 25 v):∃ x:Sn,Rep (memOf w) noLoc (Sn.D x) v∧True:=by
 obtain ⟨ds,h1,h2⟩:=arg_rep h hv (by kernel_rfl) (by kernel_rfl)
 obtain ⟨x,rfl,hx⟩:=sh25 (f:=6) h2
 obtain ⟨cs,rfl⟩:=agg_of hv (.inl ⟨_,Tryz.underlying25⟩)
 refine ⟨x,?_,hx⟩
 simp only [Rep,Sn.D]
 exact ⟨cs,rfl,by simpa [Value.cells] using h1⟩
theorem arg3 {H:Type} {enc:TypeId × Value→H} {w:World} {base base':Nat} {sp:Nat→Bool} {held:Bool} {v:Value} {d:DataW H} {p:List MemPlace} {r:Reach} (h:DataW.Trod enc Tryz.prog w base sp held 3 v d p) (hv:Value.okWide Tryz.prog w r base' 3 v):∃ x:Int,Rep (memOf w) noLoc (I x) v∧R64 x:=by
 obtain ⟨ds,h1,h2⟩:=arg_rep h hv (by kernel_rfl) (by kernel_rfl)
 obtain ⟨x,rfl,hx⟩:=sh3 (f:=7) h2
 obtain ⟨u,e,hu⟩:=repL_one h1
 exact ⟨x,by rw [one_cell e (ok_notAgg hv (by rw [Tryz.underlying3]; simp) (by rw [Tryz.underlying3]; simp))]; exact hu,hx⟩
open Go.Lib in
theorem tab_ok {W : World} (h : laidMetH Tryz.prog [("math/bits.deBruijn32tab", YtmdmclbpnkdimaaGreatDoor.Rows.laid_math_bits_deBruijn32tab), ("math/bits.deBruijn64tab", YtmdmclbpnkdimaaGreatDoor.Rows.laid_math_bits_deBruijn64tab), ("internal/strconv.uint64pow10", YtmdmclbpnkdimaaGreatDoor.Rows.laid_internal_strconv_uint64pow10), ("unicode/utf8.acceptRanges", YtmdmclbpnkdimaaGreatDoor.Rows.laid_unicode_utf8_acceptRanges), ("strconv.ErrRange", YtmdmclbpnkdimaaGreatDoor.Rows.laid_strconv_ErrRange), ("strconv.ErrSyntax", YtmdmclbpnkdimaaGreatDoor.Rows.laid_strconv_ErrSyntax), ("unicode/utf8.first", YtmdmclbpnkdimaaGreatDoor.Rows.laid_unicode_utf8_first)] W) : TabOK cfg W := by
 obtain ⟨ps, h, _⟩ : laidMet Tryz.prog [("math/bits.deBruijn32tab", YtmdmclbpnkdimaaGreatDoor.Rows.laid_math_bits_deBruijn32tab), ("math/bits.deBruijn64tab", YtmdmclbpnkdimaaGreatDoor.Rows.laid_math_bits_deBruijn64tab), ("internal/strconv.uint64pow10", YtmdmclbpnkdimaaGreatDoor.Rows.laid_internal_strconv_uint64pow10), ("unicode/utf8.acceptRanges", YtmdmclbpnkdimaaGreatDoor.Rows.laid_unicode_utf8_acceptRanges), ("strconv.ErrRange", YtmdmclbpnkdimaaGreatDoor.Rows.laid_strconv_ErrRange), ("strconv.ErrSyntax", YtmdmclbpnkdimaaGreatDoor.Rows.laid_strconv_ErrSyntax), ("unicode/utf8.first", YtmdmclbpnkdimaaGreatDoor.Rows.laid_unicode_utf8_first)] W := h
 obtain ⟨_,_,_,_,_,q,_,_,_,_,h,_⟩:=h
 obtain ⟨_,_,_,_,_,q,_,_,_,_,h,_⟩:=h
 obtain ⟨g',t',cs,fuel,p,q,hg',ht',hvar,hd,_⟩:=h
 intro g cs' hc
 have hg:g=F1.gPow∧cs'=F1.powTab:=by
  have hc':(bif eqb g F1.gPow then some F1.powTab else none)=some cs':=hc
  cases he:eqb g F1.gPow with
  | false=>rw [he] at hc'; cases hc'
  | true=>rw [he] at hc'; cases hc'; exact ⟨yc.1 he,rfl⟩
 obtain ⟨rfl,rfl⟩:=hg
 obtain rfl:=Option.some.inj (F1.gPow_is.symm.trans hg')
 have hgt:(Tryz.prog.globals[F1.gPow]?).map (·.type)=some 166:=by kernel_rfl
 obtain rfl:=Option.some.inj (hgt.symm.trans ht')
 have hz:(YtmdmclbpnkdimaaGreatDoor.Rows.laid_internal_strconv_uint64pow10:DataW Unit)=Lib.tabData .u64 Lib.pow10Tab:=by kernel_rfl
 rw [hz] at hd
 have hcs:=cells_of_tab (n:=20) Tryz.underlying166 Tryz.underlying140 (by kernel_rfl) (by kernel_rfl) hd
 unfold World.var? at hvar
 rw [F1.gPow_is,Option.bind_some] at hvar
 split at hvar
 ·rename_i c t fr hh
  cases hvar
  exact ⟨t,fr,by rw [hh,F1.powTab_is,← hcs]⟩
 ·cases hvar
noncomputable def laidWorld (os:Os):World :=
 let n:=(World.settled Tryz.prog os).heap.size
 { World.holding Tryz.prog os ⟨#[.cells #[.string ⟨#[118,97,108,117,101,32,111,117,116,32,111,102,32,114,97,110,103,101]⟩] 174 (0,0),.cells #[.string ⟨#[105,110,118,97,108,105,100,32,115,121,110,116,97,120]⟩] 174 (0,0)],#[],[]⟩ with heap:=((((((((World.holding Tryz.prog os ⟨#[.cells #[.string ⟨#[118,97,108,117,101,32,111,117,116,32,111,102,32,114,97,110,103,101]⟩] 174 (0,0),.cells #[.string ⟨#[105,110,118,97,108,105,100,32,115,121,110,116,97,120]⟩] 174 (0,0)],#[],[]⟩).heap.modify 6 fun | .cells _ t fr=>.cells (#[.int .u8 0,.int .u8 1,.int .u8 28,.int .u8 2,.int .u8 29,.int .u8 14,.int .u8 24,.int .u8 3,.int .u8 30,.int .u8 22,.int .u8 20,.int .u8 15,.int .u8 25,.int .u8 17,.int .u8 4,.int .u8 8,.int .u8 31,.int .u8 27,.int .u8 13,.int .u8 23,.int .u8 21,.int .u8 19,.int .u8 16,.int .u8 7,.int .u8 26,.int .u8 12,.int .u8 18,.int .u8 6,.int .u8 11,.int .u8 5,.int .u8 10,.int .u8 9]) t fr | o=>o).modify 7 fun | .cells _ t fr=>.cells (#[.int .u8 0,.int .u8 1,.int .u8 56,.int .u8 2,.int .u8 57,.int .u8 49,.int .u8 28,.int .u8 3,.int .u8 61,.int .u8 58,.int .u8 42,.int .u8 50,.int .u8 38,.int .u8 29,.int .u8 17,.int .u8 4,.int .u8 62,.int .u8 47,.int .u8 59,.int .u8 36,.int .u8 45,.int .u8 43,.int .u8 51,.int .u8 22,.int .u8 53,.int .u8 39,.int .u8 33,.int .u8 30,.int .u8 24,.int .u8 18,.int .u8 12,.int .u8 5,.int .u8 63,.int .u8 55,.int .u8 48,.int .u8 27,.int .u8 60,.int .u8 41,.int .u8 37,.int .u8 16,.int .u8 46,.int .u8 35,.int .u8 44,.int .u8 21,.int .u8 52,.int .u8 32,.int .u8 23,.int .u8 11,.int .u8 54,.int .u8 26,.int .u8 40,.int .u8 15,.int .u8 34,.int .u8 20,.int .u8 31,.int .u8 10,.int .u8 25,.int .u8 14,.int .u8 19,.int .u8 9,.int .u8 13,.int .u8 8,.int .u8 7,.int .u8 6]) t fr | o=>o).modify 3 fun | .cells _ t fr=>.cells (#[.int .u64 1,.int .u64 10,.int .u64 100,.int .u64 1000,.int .u64 10000,.int .u64 100000,.int .u64 1000000,.int .u64 10000000,.int .u64 100000000,.int .u64 1000000000,.int .u64 10000000000,.int .u64 100000000000,.int .u64 1000000000000,.int .u64 10000000000000,.int .u64 100000000000000,.int .u64 1000000000000000,.int .u64 10000000000000000,.int .u64 100000000000000000,.int .u64 1000000000000000000,.int .u64 10000000000000000000]) t fr | o=>o).modify 5 fun | .cells _ t fr=>.cells (#[.int .u8 128,.int .u8 191,.int .u8 160,.int .u8 191,.int .u8 128,.int .u8 159,.int .u8 144,.int .u8 191,.int .u8 128,.int .u8 143,.int .u8 0,.int .u8 0,.int .u8 0,.int .u8 0,.int .u8 0,.int .u8 0,.int .u8 0,.int .u8 0,.int .u8 0,.int .u8 0,.int .u8 0,.int .u8 0,.int .u8 0,.int .u8 0,.int .u8 0,.int .u8 0,.int .u8 0,.int .u8 0,.int .u8 0,.int .u8 0,.int .u8 0,.int .u8 0]) t fr | o=>o).modify 2 fun | .cells _ t fr=>.cells (#[.iface 172 (.pointer (some ⟨n+0,0,none⟩))]) t fr | o=>o).modify 1 fun | .cells _ t fr=>.cells (#[.iface 172 (.pointer (some ⟨n+1,0,none⟩))]) t fr | o=>o).modify 4 fun | .cells _ t fr=>.cells ((Go.Pinned.utf8FirstZ.map fun z=>Value.int .u8 (Int.ofNat z)).toArray) t fr | o=>o) }
end Go.VS

namespace Go.VS
open Go
theorem law_dials (r:GS Sn) (n:Int) (W:Sn):r.l.length≤9223372036854775807→R64 n→True→(lim cfg).pure 4 [GS.D Sn.D 2 r,I n,Sn.D W]=some (B true):=fun h1 _ _=>by
 rw [T_l_RangesDials r n W h1]
 unfold l_RangesDials
 simp only [Bool.cond_self]
end Go.VS

