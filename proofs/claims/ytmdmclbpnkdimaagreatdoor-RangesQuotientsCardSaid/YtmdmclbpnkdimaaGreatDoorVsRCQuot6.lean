/- Nothing of a statement is proved in this text alone: it is part 6 of the proof's own tools, an evaluator of the code over deep values, its soundness, and what it makes of this seat's functions. Conditions: none beyond the statement's own. -/
import Derived.Test.YtmdmclbpnkdimaaGreatDoorVsRCQuot5
set_option linter.unusedSimpArgs false
set_option linter.unusedVariables false
namespace Go.VS
open Go
set_option maxHeartbeats 0
def prodL (k:Sn) (hi:Int):Nat→Int→List Sn
 | 0,_=>[]
 | n+1,x=>if x≤hi then (if k.lo - 1≤x * (k.hi - k.lo) then [⟨x * k.lo,hi * k.hi⟩] else ⟨x * k.lo,x * k.hi⟩::prodL k hi n (x+1)) else []
theorem prodL_len (k:Sn) (hi:Int):∀ (n:Nat) (x:Int),(prodL k hi n x).length≤n
 | 0,_=>Nat.le_refl _
 | n+1,x=>by
  have:=prodL_len k hi n (x+1)
  unfold prodL
  split
  ·split <;> simp <;> omega
  ·simp
def KOk (k:Sn):Prop:=0≤k.lo∧k.lo≤k.hi∧k.hi≤1000
theorem mul_b {a b:Int} (ha:-1099511627777≤a∧a≤1099511627777) (hb:-1000≤b∧b≤1000):-1099511627777000≤a * b∧a * b≤1099511627777000:=by
 rcases Int.le_total 0 a with h | h <;> rcases Int.le_total 0 b with h' | h'
 ·have h1:=Int.mul_le_mul ha.2 hb.2 h' (by omega)
  have h2:=Int.mul_nonneg h h'
  omega
 ·have h1:=Int.mul_le_mul ha.2 (show -b≤1000 by omega) (by omega) (by omega)
  have h2:=Int.mul_nonneg h (show 0≤-b by omega)
  rw [Int.mul_neg] at h1 h2
  omega
 ·have h1:=Int.mul_le_mul (show -a≤1099511627777 by omega) hb.2 h' (by omega)
  have h2:=Int.mul_nonneg (show 0≤-a by omega) h'
  rw [Int.neg_mul] at h1 h2
  omega
 ·have h1:=Int.mul_le_mul (show -a≤1099511627777 by omega) (show -b≤1000 by omega) (by omega) (by omega)
  have h2:=Int.mul_nonneg (show 0≤-a by omega) (show 0≤-b by omega)
  rw [Int.neg_mul_neg] at h1 h2
  omega
theorem mul_w {a b:Int} (ha:-1099511627777≤a∧a≤1099511627777) (hb:-1000≤b∧b≤1000):w64 (a * b)=a * b:=by
 have:=mul_b ha hb
 exact y9 (by omega) (by omega)
theorem len_one {v:List Sn} {c:Sn}:(v++[c]).length=v.length+1:=by simp
def negW (y:Sn):Sn:=⟨w64 (0 - y.hi),w64 (0 - y.lo)⟩

def ranges_products_3_r (x:Sn) (k:Sn) (xS:Int):LR_ranges_products_3→List Sn
 | .x0 v i=>v++[(⟨w64 (i * k.lo),w64 (x.hi * k.hi)⟩:Sn)]
 | .x1 v i=>v++[(⟨w64 (i * k.lo),w64 (i * k.hi)⟩:Sn)]
 | .x2 v i=>v
 | .x3=>[(⟨w64 (xS * k.lo),w64 (x.hi * k.hi)⟩:Sn)]
 | .x4=>[]
 | .out=>[]
theorem ranges_products_3a_eq (x:Sn) (k:Sn) (xS:Int) (hk:KOk k) (hh:-1099511627776≤x.hi∧x.hi≤1099511627776):∀ (f:Nat) (v:List Sn) (i:Int),0≤i→i≤1099511627777→v.length≤2048→2051≤v.length+f→ranges_products_3_r x k xS (yD x k xS f v i)=v++prodL k x.hi (2049 - v.length) i
 | 0,v,i,h0,h1,h2,h3=>by omega
 | f+1,v,i,h0,h1,h2,h3=>by
  obtain ⟨k1,k2,k3⟩:=hk
  obtain ⟨m,hm⟩:∃ m,2049 - v.length=m+1:=⟨2048 - v.length,by omega⟩
  rw [hm]
  unfold yD prodL
  by_cases c1:i≤x.hi
  ·rw [decide_eq_true c1,if_pos c1,y9 (n:=k.hi - k.lo) (by omega) (by omega),y9 (n:=k.lo - 1) (by omega) (by omega),mul_w (a:=i) (b:=k.hi - k.lo) (by omega) (by omega)]
   by_cases c2:k.lo - 1≤i * (k.hi - k.lo)
   ·rw [decide_eq_true (show i * (k.hi - k.lo) ≥ k.lo - 1 from c2),if_pos c2]
    simp only [cond_true,ranges_products_3_r]
    rw [mul_w (by omega) (by omega),mul_w (by omega) (by omega)]
   ·rw [decide_eq_false (show ¬ i * (k.hi - k.lo) ≥ k.lo - 1 from c2),if_neg c2]
    simp only [cond_true,cond_false,len_one]
    by_cases c3:v.length < 2048
    ·rw [decide_eq_false (show ¬ (((v.length+1:Nat):Int) > 2048) by omega),cond_false,y9 (n:=i+1) (by omega) (by omega),
      ranges_products_3a_eq x k xS ⟨k1,k2,k3⟩ hh f _ (i+1) (by omega) (by omega) (by rw [len_one]; omega) (by rw [len_one]; omega),len_one,List.append_assoc]
     rw [show 2049 - (v.length+1)=m by omega,mul_w (by omega) (by omega),mul_w (by omega) (by omega)]; rfl
    ·rw [decide_eq_true (show (((v.length+1:Nat):Int) > 2048) by omega),cond_true]
     have:m=0:=by omega
     subst this
     simp only [ranges_products_3_r,prodL]
     rw [mul_w (by omega) (by omega),mul_w (by omega) (by omega)]
  ·rw [decide_eq_false c1,if_neg c1]
   simp [ranges_products_3_r]
theorem ranges_products_3_eq (x:Sn) (k:Sn) (xS:Int) (hk:KOk k) (hh:-1099511627776≤x.hi∧x.hi≤1099511627776) (h0:0≤xS) (h1:xS≤1099511627777):ranges_products_3_r x k xS (yz x k xS 2051)=prodL k x.hi 2049 xS:=by
 obtain ⟨k1,k2,k3⟩:=hk
 unfold yz prodL
 by_cases c1:xS≤x.hi
 ·rw [decide_eq_true c1,if_pos c1,y9 (n:=k.hi - k.lo) (by omega) (by omega),y9 (n:=k.lo - 1) (by omega) (by omega),mul_w (a:=xS) (b:=k.hi - k.lo) (by omega) (by omega)]
  by_cases c2:k.lo - 1≤xS * (k.hi - k.lo)
  ·rw [decide_eq_true (show xS * (k.hi - k.lo) ≥ k.lo - 1 from c2),if_pos c2]
   simp only [cond_true,ranges_products_3_r]
   rw [mul_w (by omega) (by omega),mul_w (by omega) (by omega)]
  ·rw [decide_eq_false (show ¬ xS * (k.hi - k.lo) ≥ k.lo - 1 from c2),if_neg c2]
   simp only [cond_true,cond_false]
   rw [y9 (n:=xS+1) (by omega) (by omega),ranges_products_3a_eq x k xS ⟨k1,k2,k3⟩ hh 2050 _ _ (by omega) (by omega) (by simp) (by simp),mul_w (by omega) (by omega),mul_w (by omega) (by omega)]; rfl
 ·rw [decide_eq_false c1,if_neg c1]; rfl

def ranges_products_3p1_r (k:Sn) (xf:Int) (xk:Int):LR_ranges_products_3p1→List Sn
 | .x0 v i=>v++[(⟨w64 (i * k.lo),w64 (xf * k.hi)⟩:Sn)]
 | .x1 v i=>v++[(⟨w64 (i * k.lo),w64 (i * k.hi)⟩:Sn)]
 | .x2 v i=>v
 | .x3=>[(⟨w64 (xk * k.lo),w64 (xf * k.hi)⟩:Sn)]
 | .x4=>[]
 | .out=>[]
theorem ranges_products_3p1a_eq (k:Sn) (xf:Int) (xk:Int) (hk:KOk k) (hh:-1099511627776≤xf∧xf≤1099511627776):∀ (f:Nat) (v:List Sn) (i:Int),0≤i→i≤1099511627777→v.length≤2048→2051≤v.length+f→ranges_products_3p1_r k xf xk (yh k xf xk f v i)=v++prodL k xf (2049 - v.length) i
 | 0,v,i,h0,h1,h2,h3=>by omega
 | f+1,v,i,h0,h1,h2,h3=>by
  obtain ⟨k1,k2,k3⟩:=hk
  obtain ⟨m,hm⟩:∃ m,2049 - v.length=m+1:=⟨2048 - v.length,by omega⟩
  rw [hm]
  unfold yh prodL
  by_cases c1:i≤xf
  ·rw [decide_eq_true c1,if_pos c1,y9 (n:=k.hi - k.lo) (by omega) (by omega),y9 (n:=k.lo - 1) (by omega) (by omega),mul_w (a:=i) (b:=k.hi - k.lo) (by omega) (by omega)]
   by_cases c2:k.lo - 1≤i * (k.hi - k.lo)
   ·rw [decide_eq_true (show i * (k.hi - k.lo) ≥ k.lo - 1 from c2),if_pos c2]
    simp only [cond_true,ranges_products_3p1_r]
    rw [mul_w (by omega) (by omega),mul_w (by omega) (by omega)]
   ·rw [decide_eq_false (show ¬ i * (k.hi - k.lo) ≥ k.lo - 1 from c2),if_neg c2]
    simp only [cond_true,cond_false,len_one]
    by_cases c3:v.length < 2048
    ·rw [decide_eq_false (show ¬ (((v.length+1:Nat):Int) > 2048) by omega),cond_false,y9 (n:=i+1) (by omega) (by omega),
      ranges_products_3p1a_eq k xf xk ⟨k1,k2,k3⟩ hh f _ (i+1) (by omega) (by omega) (by rw [len_one]; omega) (by rw [len_one]; omega),len_one,List.append_assoc]
     rw [show 2049 - (v.length+1)=m by omega,mul_w (by omega) (by omega),mul_w (by omega) (by omega)]; rfl
    ·rw [decide_eq_true (show (((v.length+1:Nat):Int) > 2048) by omega),cond_true]
     have:m=0:=by omega
     subst this
     simp only [ranges_products_3p1_r,prodL]
     rw [mul_w (by omega) (by omega),mul_w (by omega) (by omega)]
  ·rw [decide_eq_false c1,if_neg c1]
   simp [ranges_products_3p1_r]
theorem ranges_products_3p1_eq (k:Sn) (xf:Int) (xk:Int) (hk:KOk k) (hh:-1099511627776≤xf∧xf≤1099511627776) (h0:0≤xk) (h1:xk≤1099511627777):ranges_products_3p1_r k xf xk (zR k xf xk 2051)=prodL k xf 2049 xk:=by
 obtain ⟨k1,k2,k3⟩:=hk
 unfold zR prodL
 by_cases c1:xk≤xf
 ·rw [decide_eq_true c1,if_pos c1,y9 (n:=k.hi - k.lo) (by omega) (by omega),y9 (n:=k.lo - 1) (by omega) (by omega),mul_w (a:=xk) (b:=k.hi - k.lo) (by omega) (by omega)]
  by_cases c2:k.lo - 1≤xk * (k.hi - k.lo)
  ·rw [decide_eq_true (show xk * (k.hi - k.lo) ≥ k.lo - 1 from c2),if_pos c2]
   simp only [cond_true,ranges_products_3p1_r]
   rw [mul_w (by omega) (by omega),mul_w (by omega) (by omega)]
  ·rw [decide_eq_false (show ¬ xk * (k.hi - k.lo) ≥ k.lo - 1 from c2),if_neg c2]
   simp only [cond_true,cond_false]
   rw [y9 (n:=xk+1) (by omega) (by omega),ranges_products_3p1a_eq k xf xk ⟨k1,k2,k3⟩ hh 2050 _ _ (by omega) (by omega) (by simp) (by simp),mul_w (by omega) (by omega),mul_w (by omega) (by omega)]; rfl
 ·rw [decide_eq_false c1,if_neg c1]; rfl

def ranges_products_3p2_r (k:Sn) (x9:Int) (xl:Int):LR_ranges_products_3p2→List Sn
 | .x0 v i=>v++[(⟨w64 (i * k.lo),w64 (x9 * k.hi)⟩:Sn)]
 | .x1 v i=>v++[(⟨w64 (i * k.lo),w64 (i * k.hi)⟩:Sn)]
 | .x2 v i=>v
 | .x3=>[(⟨w64 (xl * k.lo),w64 (x9 * k.hi)⟩:Sn)]
 | .x4=>[]
 | .out=>[]
theorem ranges_products_3p2a_eq (k:Sn) (x9:Int) (xl:Int) (hk:KOk k) (hh:-1099511627776≤x9∧x9≤1099511627776):∀ (f:Nat) (v:List Sn) (i:Int),0≤i→i≤1099511627777→v.length≤2048→2051≤v.length+f→ranges_products_3p2_r k x9 xl (yi k x9 xl f v i)=v++prodL k x9 (2049 - v.length) i
 | 0,v,i,h0,h1,h2,h3=>by omega
 | f+1,v,i,h0,h1,h2,h3=>by
  obtain ⟨k1,k2,k3⟩:=hk
  obtain ⟨m,hm⟩:∃ m,2049 - v.length=m+1:=⟨2048 - v.length,by omega⟩
  rw [hm]
  unfold yi prodL
  by_cases c1:i≤x9
  ·rw [decide_eq_true c1,if_pos c1,y9 (n:=k.hi - k.lo) (by omega) (by omega),y9 (n:=k.lo - 1) (by omega) (by omega),mul_w (a:=i) (b:=k.hi - k.lo) (by omega) (by omega)]
   by_cases c2:k.lo - 1≤i * (k.hi - k.lo)
   ·rw [decide_eq_true (show i * (k.hi - k.lo) ≥ k.lo - 1 from c2),if_pos c2]
    simp only [cond_true,ranges_products_3p2_r]
    rw [mul_w (by omega) (by omega),mul_w (by omega) (by omega)]
   ·rw [decide_eq_false (show ¬ i * (k.hi - k.lo) ≥ k.lo - 1 from c2),if_neg c2]
    simp only [cond_true,cond_false,len_one]
    by_cases c3:v.length < 2048
    ·rw [decide_eq_false (show ¬ (((v.length+1:Nat):Int) > 2048) by omega),cond_false,y9 (n:=i+1) (by omega) (by omega),
      ranges_products_3p2a_eq k x9 xl ⟨k1,k2,k3⟩ hh f _ (i+1) (by omega) (by omega) (by rw [len_one]; omega) (by rw [len_one]; omega),len_one,List.append_assoc]
     rw [show 2049 - (v.length+1)=m by omega,mul_w (by omega) (by omega),mul_w (by omega) (by omega)]; rfl
    ·rw [decide_eq_true (show (((v.length+1:Nat):Int) > 2048) by omega),cond_true]
     have:m=0:=by omega
     subst this
     simp only [ranges_products_3p2_r,prodL]
     rw [mul_w (by omega) (by omega),mul_w (by omega) (by omega)]
  ·rw [decide_eq_false c1,if_neg c1]
   simp [ranges_products_3p2_r]
theorem ranges_products_3p2_eq (k:Sn) (x9:Int) (xl:Int) (hk:KOk k) (hh:-1099511627776≤x9∧x9≤1099511627776) (h0:0≤xl) (h1:xl≤1099511627777):ranges_products_3p2_r k x9 xl (ye k x9 xl 2051)=prodL k x9 2049 xl:=by
 obtain ⟨k1,k2,k3⟩:=hk
 unfold ye prodL
 by_cases c1:xl≤x9
 ·rw [decide_eq_true c1,if_pos c1,y9 (n:=k.hi - k.lo) (by omega) (by omega),y9 (n:=k.lo - 1) (by omega) (by omega),mul_w (a:=xl) (b:=k.hi - k.lo) (by omega) (by omega)]
  by_cases c2:k.lo - 1≤xl * (k.hi - k.lo)
  ·rw [decide_eq_true (show xl * (k.hi - k.lo) ≥ k.lo - 1 from c2),if_pos c2]
   simp only [cond_true,ranges_products_3p2_r]
   rw [mul_w (by omega) (by omega),mul_w (by omega) (by omega)]
  ·rw [decide_eq_false (show ¬ xl * (k.hi - k.lo) ≥ k.lo - 1 from c2),if_neg c2]
   simp only [cond_true,cond_false]
   rw [y9 (n:=xl+1) (by omega) (by omega),ranges_products_3p2a_eq k x9 xl ⟨k1,k2,k3⟩ hh 2050 _ _ (by omega) (by omega) (by simp) (by simp),mul_w (by omega) (by omega),mul_w (by omega) (by omega)]; rfl
 ·rw [decide_eq_false c1,if_neg c1]; rfl

def ranges_products_3p3_r (k:Sn) (xm:Int) (xn:Int):LR_ranges_products_3p3→List Sn
 | .x0 v i=>v++[(⟨w64 (i * k.lo),w64 (xm * k.hi)⟩:Sn)]
 | .x1 v i=>v++[(⟨w64 (i * k.lo),w64 (i * k.hi)⟩:Sn)]
 | .x2 v i=>v
 | .x3=>[(⟨w64 (xn * k.lo),w64 (xm * k.hi)⟩:Sn)]
 | .x4=>[]
 | .out=>[]
theorem ranges_products_3p3a_eq (k:Sn) (xm:Int) (xn:Int) (hk:KOk k) (hh:-1099511627776≤xm∧xm≤1099511627776):∀ (f:Nat) (v:List Sn) (i:Int),0≤i→i≤1099511627777→v.length≤2048→2051≤v.length+f→ranges_products_3p3_r k xm xn (yj k xm xn f v i)=v++prodL k xm (2049 - v.length) i
 | 0,v,i,h0,h1,h2,h3=>by omega
 | f+1,v,i,h0,h1,h2,h3=>by
  obtain ⟨k1,k2,k3⟩:=hk
  obtain ⟨m,hm⟩:∃ m,2049 - v.length=m+1:=⟨2048 - v.length,by omega⟩
  rw [hm]
  unfold yj prodL
  by_cases c1:i≤xm
  ·rw [decide_eq_true c1,if_pos c1,y9 (n:=k.hi - k.lo) (by omega) (by omega),y9 (n:=k.lo - 1) (by omega) (by omega),mul_w (a:=i) (b:=k.hi - k.lo) (by omega) (by omega)]
   by_cases c2:k.lo - 1≤i * (k.hi - k.lo)
   ·rw [decide_eq_true (show i * (k.hi - k.lo) ≥ k.lo - 1 from c2),if_pos c2]
    simp only [cond_true,ranges_products_3p3_r]
    rw [mul_w (by omega) (by omega),mul_w (by omega) (by omega)]
   ·rw [decide_eq_false (show ¬ i * (k.hi - k.lo) ≥ k.lo - 1 from c2),if_neg c2]
    simp only [cond_true,cond_false,len_one]
    by_cases c3:v.length < 2048
    ·rw [decide_eq_false (show ¬ (((v.length+1:Nat):Int) > 2048) by omega),cond_false,y9 (n:=i+1) (by omega) (by omega),
      ranges_products_3p3a_eq k xm xn ⟨k1,k2,k3⟩ hh f _ (i+1) (by omega) (by omega) (by rw [len_one]; omega) (by rw [len_one]; omega),len_one,List.append_assoc]
     rw [show 2049 - (v.length+1)=m by omega,mul_w (by omega) (by omega),mul_w (by omega) (by omega)]; rfl
    ·rw [decide_eq_true (show (((v.length+1:Nat):Int) > 2048) by omega),cond_true]
     have:m=0:=by omega
     subst this
     simp only [ranges_products_3p3_r,prodL]
     rw [mul_w (by omega) (by omega),mul_w (by omega) (by omega)]
  ·rw [decide_eq_false c1,if_neg c1]
   simp [ranges_products_3p3_r]
theorem ranges_products_3p3_eq (k:Sn) (xm:Int) (xn:Int) (hk:KOk k) (hh:-1099511627776≤xm∧xm≤1099511627776) (h0:0≤xn) (h1:xn≤1099511627777):ranges_products_3p3_r k xm xn (yf k xm xn 2051)=prodL k xm 2049 xn:=by
 obtain ⟨k1,k2,k3⟩:=hk
 unfold yf prodL
 by_cases c1:xn≤xm
 ·rw [decide_eq_true c1,if_pos c1,y9 (n:=k.hi - k.lo) (by omega) (by omega),y9 (n:=k.lo - 1) (by omega) (by omega),mul_w (a:=xn) (b:=k.hi - k.lo) (by omega) (by omega)]
  by_cases c2:k.lo - 1≤xn * (k.hi - k.lo)
  ·rw [decide_eq_true (show xn * (k.hi - k.lo) ≥ k.lo - 1 from c2),if_pos c2]
   simp only [cond_true,ranges_products_3p3_r]
   rw [mul_w (by omega) (by omega),mul_w (by omega) (by omega)]
  ·rw [decide_eq_false (show ¬ xn * (k.hi - k.lo) ≥ k.lo - 1 from c2),if_neg c2]
   simp only [cond_true,cond_false]
   rw [y9 (n:=xn+1) (by omega) (by omega),ranges_products_3p3a_eq k xm xn ⟨k1,k2,k3⟩ hh 2050 _ _ (by omega) (by omega) (by simp) (by simp),mul_w (by omega) (by omega),mul_w (by omega) (by omega)]; rfl
 ·rw [decide_eq_false c1,if_neg c1]; rfl

def ranges_products_3p4_r (k:Sn) (yF:Int) (xo:Int):LR_ranges_products_3p4→List Sn
 | .x0 v i=>v++[(⟨w64 (i * k.lo),w64 (yF * k.hi)⟩:Sn)]
 | .x1 v i=>v++[(⟨w64 (i * k.lo),w64 (i * k.hi)⟩:Sn)]
 | .x2 v i=>v
 | .x3=>[(⟨w64 (xo * k.lo),w64 (yF * k.hi)⟩:Sn)]
 | .x4=>[]
 | .out=>[]
theorem ranges_products_3p4a_eq (k:Sn) (yF:Int) (xo:Int) (hk:KOk k) (hh:-1099511627776≤yF∧yF≤1099511627776):∀ (f:Nat) (v:List Sn) (i:Int),0≤i→i≤1099511627777→v.length≤2048→2051≤v.length+f→ranges_products_3p4_r k yF xo (yk k yF xo f v i)=v++prodL k yF (2049 - v.length) i
 | 0,v,i,h0,h1,h2,h3=>by omega
 | f+1,v,i,h0,h1,h2,h3=>by
  obtain ⟨k1,k2,k3⟩:=hk
  obtain ⟨m,hm⟩:∃ m,2049 - v.length=m+1:=⟨2048 - v.length,by omega⟩
  rw [hm]
  unfold yk prodL
  by_cases c1:i≤yF
  ·rw [decide_eq_true c1,if_pos c1,y9 (n:=k.hi - k.lo) (by omega) (by omega),y9 (n:=k.lo - 1) (by omega) (by omega),mul_w (a:=i) (b:=k.hi - k.lo) (by omega) (by omega)]
   by_cases c2:k.lo - 1≤i * (k.hi - k.lo)
   ·rw [decide_eq_true (show i * (k.hi - k.lo) ≥ k.lo - 1 from c2),if_pos c2]
    simp only [cond_true,ranges_products_3p4_r]
    rw [mul_w (by omega) (by omega),mul_w (by omega) (by omega)]
   ·rw [decide_eq_false (show ¬ i * (k.hi - k.lo) ≥ k.lo - 1 from c2),if_neg c2]
    simp only [cond_true,cond_false,len_one]
    by_cases c3:v.length < 2048
    ·rw [decide_eq_false (show ¬ (((v.length+1:Nat):Int) > 2048) by omega),cond_false,y9 (n:=i+1) (by omega) (by omega),
      ranges_products_3p4a_eq k yF xo ⟨k1,k2,k3⟩ hh f _ (i+1) (by omega) (by omega) (by rw [len_one]; omega) (by rw [len_one]; omega),len_one,List.append_assoc]
     rw [show 2049 - (v.length+1)=m by omega,mul_w (by omega) (by omega),mul_w (by omega) (by omega)]; rfl
    ·rw [decide_eq_true (show (((v.length+1:Nat):Int) > 2048) by omega),cond_true]
     have:m=0:=by omega
     subst this
     simp only [ranges_products_3p4_r,prodL]
     rw [mul_w (by omega) (by omega),mul_w (by omega) (by omega)]
  ·rw [decide_eq_false c1,if_neg c1]
   simp [ranges_products_3p4_r]
theorem ranges_products_3p4_eq (k:Sn) (yF:Int) (xo:Int) (hk:KOk k) (hh:-1099511627776≤yF∧yF≤1099511627776) (h0:0≤xo) (h1:xo≤1099511627777):ranges_products_3p4_r k yF xo (yg k yF xo 2051)=prodL k yF 2049 xo:=by
 obtain ⟨k1,k2,k3⟩:=hk
 unfold yg prodL
 by_cases c1:xo≤yF
 ·rw [decide_eq_true c1,if_pos c1,y9 (n:=k.hi - k.lo) (by omega) (by omega),y9 (n:=k.lo - 1) (by omega) (by omega),mul_w (a:=xo) (b:=k.hi - k.lo) (by omega) (by omega)]
  by_cases c2:k.lo - 1≤xo * (k.hi - k.lo)
  ·rw [decide_eq_true (show xo * (k.hi - k.lo) ≥ k.lo - 1 from c2),if_pos c2]
   simp only [cond_true,ranges_products_3p4_r]
   rw [mul_w (by omega) (by omega),mul_w (by omega) (by omega)]
  ·rw [decide_eq_false (show ¬ xo * (k.hi - k.lo) ≥ k.lo - 1 from c2),if_neg c2]
   simp only [cond_true,cond_false]
   rw [y9 (n:=xo+1) (by omega) (by omega),ranges_products_3p4a_eq k yF xo ⟨k1,k2,k3⟩ hh 2050 _ _ (by omega) (by omega) (by simp) (by simp),mul_w (by omega) (by omega),mul_w (by omega) (by omega)]; rfl
 ·rw [decide_eq_false c1,if_neg c1]; rfl

theorem ranges_Times_1_3_eq:∀ (l v:List Sn),zD l v=.x0 (v++l.map negW)
 | [],v=>by simp [zD]
 | x::l,v=>by unfold zD; rw [ranges_Times_1_3_eq l]; simp [negW]

theorem ranges_Times_1_3p1_eq:∀ (l v:List Sn),zZ l v=.x0 (v++l.map negW)
 | [],v=>by simp [zZ]
 | x::l,v=>by unfold zZ; rw [ranges_Times_1_3p1_eq l]; simp [negW]

theorem ranges_Times_1_3p2a_eq:∀ (l v:List Sn),yo l v=.x0 (v++l.map negW)
 | [],v=>by simp [yo]
 | x::l,v=>by unfold yo; rw [ranges_Times_1_3p2a_eq l]; simp [negW]
theorem ranges_Times_1_3p2_eq (l:List Sn):(l=[]∧y8 l=.x1) ∨ (l ≠ []∧y8 l=.x0 (l.map negW)):=by
 cases l with
 | nil=>exact .inl ⟨rfl,rfl⟩
 | cons x l=>right; refine ⟨by simp,?_⟩; show yo l [negW x]=_; rw [ranges_Times_1_3p2a_eq]; rfl
theorem ranges_Times_1_3p2_l (l:List Sn):(match y8 l with | .x0 v=>GS.some v | .x1=>GS.nil).l=l.map negW:=by
 rcases ranges_Times_1_3p2_eq l with ⟨a,b⟩ | ⟨a,b⟩ <;> rw [b]
 ·rw [a]; rfl
 ·rfl

theorem neg_w {a:Int} (h:-1099511627776≤a∧a≤1099511627776):w64 (0 - a)=-a:=by rw [y9 (by omega) (by omega)]; omega
theorem times1_eq (x k:Sn) (hx:-1099511627776≤x.lo∧x.lo≤x.hi∧x.hi≤1099511627776) (hk:KOk k):(z8 x k).l=prodL k x.hi 2049 (max x.lo 0)++(prodL k (-x.lo) 2049 (max (-x.hi) 0)).map negW:=by
 have nl:=neg_w (a:=x.lo) (by omega)
 have nh:=neg_w (a:=x.hi) (by omega)
 unfold z8
 rw [nl,nh,imax_eq,imax_eq]

 have e0:=ranges_products_3_eq x k (max x.lo 0) hk (by omega) (by omega) (by omega)
 have e1:=ranges_products_3p1_eq k (-x.lo) (max (-x.hi) 0) hk (by omega) (by omega) (by omega)
 have e2:=ranges_products_3p1_eq k (-x.lo) (max (-x.hi) 0) hk (by omega) (by omega) (by omega)
 have e3:=ranges_products_3p2_eq k (-x.lo) (max (-x.hi) 0) hk (by omega) (by omega) (by omega)
 have e4:=ranges_products_3p3_eq k (-x.lo) (max (-x.hi) 0) hk (by omega) (by omega) (by omega)
 have e5:=ranges_products_3p4_eq k (-x.lo) (max (-x.hi) 0) hk (by omega) (by omega) (by omega)
 cases h0:yz x k (max x.lo 0) 2051 <;> rw [h0] at e0 <;> simp only [ranges_products_3_r] at e0 ⊢ <;> rw [← e0]
 ·cases h1:zR k (-x.lo) (max (-x.hi) 0) 2051 <;> rw [h1] at e1 <;> simp only [ranges_products_3p1_r] at e1 ⊢ <;> rw [← e1]
  all_goals first | (exact absurd h1 (zC _ _ _)) | (simp only [ranges_Times_1_3_eq,ranges_Times_1_3p1_eq,GS.some_l]; done) | (exact ranges_Times_1_3p2_l _) | (simp [negW,GS.some_l,GS.nil]; done)
 ·cases h1:zR k (-x.lo) (max (-x.hi) 0) 2051 <;> rw [h1] at e1 <;> simp only [ranges_products_3p1_r] at e1 ⊢ <;> rw [← e1]
  all_goals first | (exact absurd h1 (zC _ _ _)) | (simp only [ranges_Times_1_3_eq,ranges_Times_1_3p1_eq,GS.some_l]; done) | (exact ranges_Times_1_3p2_l _) | (simp [negW,GS.some_l,GS.nil]; done)
 ·cases h1:ye k (-x.lo) (max (-x.hi) 0) 2051 <;> rw [h1] at e3 <;> simp only [ranges_products_3p2_r] at e3 ⊢ <;> rw [← e3]
  all_goals first | (exact absurd h1 (yq _ _ _)) | (simp only [ranges_Times_1_3_eq,ranges_Times_1_3p1_eq,GS.some_l]; done) | (exact ranges_Times_1_3p2_l _) | (simp [negW,GS.some_l,GS.nil]; done)
 ·cases h1:yf k (-x.lo) (max (-x.hi) 0) 2051 <;> rw [h1] at e4 <;> simp only [ranges_products_3p3_r] at e4 ⊢ <;> rw [← e4]
  all_goals first | (exact absurd h1 (yt _ _ _)) | (simp only [ranges_Times_1_3_eq,ranges_Times_1_3p1_eq,GS.some_l]; done) | (exact ranges_Times_1_3p2_l _) | (simp [negW,GS.some_l,GS.nil]; done)
 ·cases h1:yg k (-x.lo) (max (-x.hi) 0) 2051 <;> rw [h1] at e5 <;> simp only [ranges_products_3p4_r] at e5 ⊢ <;> rw [← e5]
  all_goals first | (exact absurd h1 (yu _ _ _)) | (simp only [ranges_Times_1_3_eq,ranges_Times_1_3p1_eq,GS.some_l]; done) | (exact ranges_Times_1_3p2_l _) | (simp [negW,GS.some_l,GS.nil]; done)
 ·exact absurd h0 (ranges_products_3_ne _ _ _)

theorem times1_len (x k:Sn) (hx:-1099511627776≤x.lo∧x.lo≤x.hi∧x.hi≤1099511627776) (hk:KOk k):(z8 x k).l.length≤4098:=by
 rw [times1_eq x k hx hk,List.length_append,List.length_map]
 have:=prodL_len k x.hi 2049 (max x.lo 0)
 have:=prodL_len k (-x.lo) 2049 (max (-x.hi) 0)
 omega
theorem const_iff {k:Sn} {m:Int}:zV k m=true↔m≤k.lo∧k.lo≤k.hi∧k.hi≤1000:=by
 unfold zV
 by_cases h1:m≤k.lo
 ·by_cases h2:k.lo≤k.hi
  ·by_cases h3:k.hi≤1000 <;> simp [h1,h2,h3]
  ·simp [h1,h2]
 ·simp [h1]
end Go.VS

namespace Go.VS
open Go Go.Proofs
set_option maxHeartbeats 0
set_option linter.unusedSimpArgs false
set_option linter.unusedVariables false
theorem chk1 {r:GS Sn} (h:zv r=0):r.l.length≤64∧∀ x∈r.l,-1099511627776≤x.lo∧x.lo≤x.hi∧x.hi≤1099511627776:=by
 have k:=check_iff.1 h
 refine ⟨k.2.2,fun x hx=>?_⟩
 have:=k.2.1 x hx
 have:=cn_mem k.1 hx
 omega

def sd40104 (ν0 ν1 ν2:Nat) (μ0:List Sn) (μ1:GS Sn) (μ2:Sn):St:=⟨21,[(11,B false),(1,.fn (.func 71) [] [.lref ν0 0 2 0]),(5,.lsl ν1 0 μ0.length 2 none),(8,.sl μ1.nl (μ1.l.map Sn.D) (zsl μ1.nl 2) none),(9,I ((μ1.l.length:Nat):Int)),(10,I ((μ1.l.length:Nat):Int))],[(ν0,⟨[.agg [I μ2.lo,I μ2.hi]],2,true⟩),(ν1,⟨μ0.map Sn.D,2,false⟩)],ν2,ν1⟩

def sd40105 (ν0 ν1 ν2:Nat) (μ0:List Sn) (μ1:GS Sn) (μ2:Sn):St:=⟨21,[(11,B false),(1,.fn (.func 71) [] [.lref ν0 0 2 0]),(5,.lsl ν1 0 μ0.length 2 none),(8,.sl μ1.nl (μ1.l.map Sn.D) (zsl μ1.nl 2) none),(9,I ((μ1.l.length:Nat):Int)),(10,I ((μ1.l.length:Nat):Int))],[(ν0,⟨[.agg [I μ2.lo,I μ2.hi]],2,false⟩),(ν1,⟨μ0.map Sn.D,2,false⟩)],ν2,ν1⟩

def sd40106 (ν0 ν1:Nat) (μ0:GS Sn) (μ1:Sn):St:=⟨21,[(11,B false),(1,.fn (.func 71) [] [.lref ν0 0 2 0]),(5,.sl true [] 0 none),(8,.sl μ0.nl (μ0.l.map Sn.D) (zsl μ0.nl 2) none),(9,I ((μ0.l.length:Nat):Int)),(10,I ((μ0.l.length:Nat):Int))],[(ν0,⟨[.agg [I μ1.lo,I μ1.hi]],2,true⟩)],ν1,ν1⟩

def sd40107 (ν0 ν1:Nat) (μ0:GS Sn) (μ1:Sn):St:=⟨21,[(11,B false),(1,.fn (.func 71) [] [.lref ν0 0 2 0]),(5,.sl true [] 0 none),(8,.sl μ0.nl (μ0.l.map Sn.D) (zsl μ0.nl 2) none),(9,I ((μ0.l.length:Nat):Int)),(10,I ((μ0.l.length:Nat):Int))],[(ν0,⟨[.agg [I μ1.lo,I μ1.hi]],2,false⟩)],ν1,ν1⟩

def sd40108 (ν0 ν1 ν2 ν3:Nat) (μ0:Nat) (μ1:List Sn) (μ2:Sn) (μ3:Sn) (μ4:GS Sn):St:=⟨21,[(10,I ((μ0+1:Nat):Int)),(19,I ((μ0+1:Nat):Int)),(5,.lsl ν0 0 μ1.length 2 none),(18,.lsl ν0 0 μ1.length 2 none),(17,.sl ((z8 μ2 μ3).nl) (((z8 μ2 μ3).l).map Sn.D) (zsl ((z8 μ2 μ3).nl) 2) none),(16,.agg [I μ2.lo,I μ2.hi]),(15,.fn (.func 71) [] [.lref ν1 0 2 0]),(14,.lsl ν0 0 μ1.length 2 none),(7,.lref ν2 0 2 0),(13,.agg [I μ2.lo,I μ2.hi]),(12,.ptr (.agg [I μ2.lo,I μ2.hi])),(11,B true),(1,.fn (.func 71) [] [.lref ν1 0 2 0]),(5,.lsl ν0 0 μ1.length 2 none),(8,.sl μ4.nl (μ4.l.map Sn.D) (zsl μ4.nl 2) none),(9,I ((μ4.l.length:Nat):Int)),(10,I ((μ0:Nat):Int))],[(ν1,⟨[.agg [I μ3.lo,I μ3.hi]],2,true⟩),(ν0,⟨μ1.map Sn.D,2,false⟩),(ν2,⟨[.agg [I μ2.lo,I μ2.hi]],2,false⟩)],ν3,ν0⟩

def sd40109 (ν0 ν1 ν2 ν3 ν4:Nat) (μ0:Nat) (μ1:List Sn) (μ2:Sn) (μ3:Sn) (μ4:GS Sn):St:=⟨21,[(10,I ((μ0+1:Nat):Int)),(19,I ((μ0+1:Nat):Int)),(5,.lsl ν0 0 ((μ1++((z8 μ2 μ3).l)).length) 2 none),(18,.lsl ν0 0 ((μ1++((z8 μ2 μ3).l)).length) 2 none),(17,.sl ((z8 μ2 μ3).nl) (((z8 μ2 μ3).l).map Sn.D) (zsl ((z8 μ2 μ3).nl) 2) none),(16,.agg [I μ2.lo,I μ2.hi]),(15,.fn (.func 71) [] [.lref ν1 0 2 0]),(14,.lsl ν2 0 μ1.length 2 none),(7,.lref ν3 0 2 0),(13,.agg [I μ2.lo,I μ2.hi]),(12,.ptr (.agg [I μ2.lo,I μ2.hi])),(11,B true),(1,.fn (.func 71) [] [.lref ν1 0 2 0]),(5,.lsl ν2 0 μ1.length 2 none),(8,.sl μ4.nl (μ4.l.map Sn.D) (zsl μ4.nl 2) none),(9,I ((μ4.l.length:Nat):Int)),(10,I ((μ0:Nat):Int))],[(ν1,⟨[.agg [I μ3.lo,I μ3.hi]],2,true⟩),(ν3,⟨[.agg [I μ2.lo,I μ2.hi]],2,false⟩),(ν0,⟨(μ1++((z8 μ2 μ3).l)).map Sn.D,2,false⟩)],ν4,ν2⟩

def sd40110 (ν0 ν1 ν2 ν3:Nat) (μ0:Nat) (μ1:List Sn) (μ2:Sn) (μ3:Sn) (μ4:GS Sn):St:=⟨21,[(10,I ((μ0+1:Nat):Int)),(19,I ((μ0+1:Nat):Int)),(5,.lsl ν0 0 μ1.length 2 none),(18,.lsl ν0 0 μ1.length 2 none),(17,.sl ((z8 μ2 μ3).nl) (((z8 μ2 μ3).l).map Sn.D) (zsl ((z8 μ2 μ3).nl) 2) none),(16,.agg [I μ2.lo,I μ2.hi]),(15,.fn (.func 71) [] [.lref ν1 0 2 0]),(14,.lsl ν0 0 μ1.length 2 none),(7,.lref ν2 0 2 0),(13,.agg [I μ2.lo,I μ2.hi]),(12,.ptr (.agg [I μ2.lo,I μ2.hi])),(11,B true),(1,.fn (.func 71) [] [.lref ν1 0 2 0]),(5,.lsl ν0 0 μ1.length 2 none),(8,.sl μ4.nl (μ4.l.map Sn.D) (zsl μ4.nl 2) none),(9,I ((μ4.l.length:Nat):Int)),(10,I ((μ0:Nat):Int))],[(ν1,⟨[.agg [I μ3.lo,I μ3.hi]],2,false⟩),(ν0,⟨μ1.map Sn.D,2,false⟩),(ν2,⟨[.agg [I μ2.lo,I μ2.hi]],2,false⟩)],ν3,ν0⟩

def sd40111 (ν0 ν1 ν2 ν3 ν4:Nat) (μ0:Nat) (μ1:List Sn) (μ2:Sn) (μ3:Sn) (μ4:GS Sn):St:=⟨21,[(10,I ((μ0+1:Nat):Int)),(19,I ((μ0+1:Nat):Int)),(5,.lsl ν0 0 ((μ1++((z8 μ2 μ3).l)).length) 2 none),(18,.lsl ν0 0 ((μ1++((z8 μ2 μ3).l)).length) 2 none),(17,.sl ((z8 μ2 μ3).nl) (((z8 μ2 μ3).l).map Sn.D) (zsl ((z8 μ2 μ3).nl) 2) none),(16,.agg [I μ2.lo,I μ2.hi]),(15,.fn (.func 71) [] [.lref ν1 0 2 0]),(14,.lsl ν2 0 μ1.length 2 none),(7,.lref ν3 0 2 0),(13,.agg [I μ2.lo,I μ2.hi]),(12,.ptr (.agg [I μ2.lo,I μ2.hi])),(11,B true),(1,.fn (.func 71) [] [.lref ν1 0 2 0]),(5,.lsl ν2 0 μ1.length 2 none),(8,.sl μ4.nl (μ4.l.map Sn.D) (zsl μ4.nl 2) none),(9,I ((μ4.l.length:Nat):Int)),(10,I ((μ0:Nat):Int))],[(ν1,⟨[.agg [I μ3.lo,I μ3.hi]],2,false⟩),(ν3,⟨[.agg [I μ2.lo,I μ2.hi]],2,false⟩),(ν0,⟨(μ1++((z8 μ2 μ3).l)).map Sn.D,2,false⟩)],ν4,ν2⟩

def sd40112 (ν0 ν1 ν2 ν3:Nat) (μ0:Nat) (μ1:Sn) (μ2:Sn) (μ3:GS Sn):St:=⟨21,[(10,I ((μ0+1:Nat):Int)),(19,I ((μ0+1:Nat):Int)),(5,.lsl ν0 0 (((z8 μ1 μ2).l).length) 2 none),(18,.lsl ν0 0 (((z8 μ1 μ2).l).length) 2 none),(17,.sl ((z8 μ1 μ2).nl) (((z8 μ1 μ2).l).map Sn.D) (zsl ((z8 μ1 μ2).nl) 2) none),(16,.agg [I μ1.lo,I μ1.hi]),(15,.fn (.func 71) [] [.lref ν1 0 2 0]),(14,.sl true [] 0 none),(7,.lref ν2 0 2 0),(13,.agg [I μ1.lo,I μ1.hi]),(12,.ptr (.agg [I μ1.lo,I μ1.hi])),(11,B true),(1,.fn (.func 71) [] [.lref ν1 0 2 0]),(5,.sl true [] 0 none),(8,.sl μ3.nl (μ3.l.map Sn.D) (zsl μ3.nl 2) none),(9,I ((μ3.l.length:Nat):Int)),(10,I ((μ0:Nat):Int))],[(ν1,⟨[.agg [I μ2.lo,I μ2.hi]],2,true⟩),(ν2,⟨[.agg [I μ1.lo,I μ1.hi]],2,false⟩),(ν0,⟨((z8 μ1 μ2).l).map Sn.D,2,false⟩)],ν3,ν2⟩

def sd40113 (ν0 ν1 ν2 ν3:Nat) (μ0:Nat) (μ1:Sn) (μ2:Sn) (μ3:GS Sn):St:=⟨21,[(10,I ((μ0+1:Nat):Int)),(19,I ((μ0+1:Nat):Int)),(5,.lsl ν0 0 (((z8 μ1 μ2).l).length) 2 none),(18,.lsl ν0 0 (((z8 μ1 μ2).l).length) 2 none),(17,.sl ((z8 μ1 μ2).nl) (((z8 μ1 μ2).l).map Sn.D) (zsl ((z8 μ1 μ2).nl) 2) none),(16,.agg [I μ1.lo,I μ1.hi]),(15,.fn (.func 71) [] [.lref ν1 0 2 0]),(14,.sl true [] 0 none),(7,.lref ν2 0 2 0),(13,.agg [I μ1.lo,I μ1.hi]),(12,.ptr (.agg [I μ1.lo,I μ1.hi])),(11,B true),(1,.fn (.func 71) [] [.lref ν1 0 2 0]),(5,.sl true [] 0 none),(8,.sl μ3.nl (μ3.l.map Sn.D) (zsl μ3.nl 2) none),(9,I ((μ3.l.length:Nat):Int)),(10,I ((μ0:Nat):Int))],[(ν1,⟨[.agg [I μ2.lo,I μ2.hi]],2,false⟩),(ν2,⟨[.agg [I μ1.lo,I μ1.hi]],2,false⟩),(ν0,⟨((z8 μ1 μ2).l).map Sn.D,2,false⟩)],ν3,ν2⟩

inductive LR_ranges_each_3p2 where
 | x0 (yK:List Sn)
 | x1 (yG:List Sn)
 | x2
 | x3
instance:Inhabited LR_ranges_each_3p2:=⟨.x0 default⟩
def zP (k:Sn):List Sn→(List Sn)→LR_ranges_each_3p2
 | [],yK=>.x0 yK
 | xe::yW,yK =>
  bif (z8 xe k).nl then
   bif ((z8 xe k).l).isEmpty then
    zP k yW yK
   else
    zP k yW (yK++((z8 xe k).l))
  else
   bif ((z8 xe k).l).isEmpty then
    zP k yW yK
   else
    zP k yW (yK++((z8 xe k).l))
def yA (k:Sn):List Sn→(List Sn)→LR_ranges_each_3p2
 | [],yG=>.x1 yG
 | xe::yW,yG =>
  bif (z8 xe k).nl then
   bif ((z8 xe k).l).isEmpty then
    yA k yW yG
   else
    yA k yW (yG++((z8 xe k).l))
  else
   bif ((z8 xe k).l).isEmpty then
    zP k yW yG
   else
    zP k yW (yG++((z8 xe k).l))
def ranges_each_3p2b (k:Sn):List Sn→LR_ranges_each_3p2
 | []=>.x2
 | xe::yW =>
  bif (z8 xe k).nl then
   bif ((z8 xe k).l).isEmpty then
    ranges_each_3p2b k yW
   else
    zP k yW ((z8 xe k).l)
  else
   bif ((z8 xe k).l).isEmpty then
    ranges_each_3p2b k yW
   else
    zP k yW ((z8 xe k).l)
def ranges_each_3p2 (k:Sn):List Sn→LR_ranges_each_3p2
 | []=>.x3
 | xe::yW =>
  bif (z8 xe k).nl then
   bif ((z8 xe k).l).isEmpty then
    ranges_each_3p2 k yW
   else
    yA k yW ((z8 xe k).l)
  else
   bif ((z8 xe k).l).isEmpty then
    ranges_each_3p2b k yW
   else
    zP k yW ((z8 xe k).l)
def lr_ranges_each_3p2 (r:GS Sn) (k:Sn):LR_ranges_each_3p2→Exit × St
 | .x0 yK=>((.exit 0),(sd40104 0 1 2 yK r k))
 | .x1 yG=>((.exit 0),(sd40105 0 1 2 yG r k))
 | .x2=>((.exit 0),(sd40106 0 1 r k))
 | .x3=>((.exit 0),(sd40107 0 1 r k))
def iv_ranges_each_3p2 (r:GS Sn) (k:Sn):LR_ranges_each_3p2→Prop
 | .x0 yK=>(yK.length≤4098 * r.l.length)
 | .x1 yG=>(yG.length≤4098 * r.l.length)
 | .x2=>True
 | .x3=>True
def ranges_each_3p2c_l_o1 (k:Sn) (xe:Sn):List Ora:=[.dec true,.el (.agg [I xe.lo,I xe.hi]),.pureS (.sl ((z8 xe k).nl) (((z8 xe k).l).map Sn.D) (zsl ((z8 xe k).nl) 2) none) true []]
def ranges_each_3p2c_l_o2 (k:Sn) (xe:Sn):List Ora:=[.dec true,.el (.agg [I xe.lo,I xe.hi]),.pureS (.sl ((z8 xe k).nl) (((z8 xe k).l).map Sn.D) (zsl ((z8 xe k).nl) 2) none) false []]
theorem lp_ranges_each_3p2c (r:GS Sn) (k:Sn):∀ (yW:List Sn) (xw:Nat) (yK:List Sn) (yZ:r.l.drop xw=yW) (xL:xw≤r.l.length) (hB:∀ x∈r.l,-1099511627776≤x.lo∧x.lo≤x.hi∧x.hi≤1099511627776) (xV:r.l.length≤64) (hk:0≤k.lo∧k.lo≤k.hi∧k.hi≤1000) (hg3p2_vc3p2_0:yK.length≤4098 * xw) (hL3p2:r.l.length≤1099511627776),(lim cfg).loop 70 lp70_3 ⟨21,[(1,.fn (.func 71) [] [.lref 0 0 2 0]),(5,.lsl 1 0 yK.length 2 none),(8,.sl r.nl (r.l.map Sn.D) (zsl r.nl 2) none),(9,I ((r.l.length:Nat):Int)),(10,I ((xw:Nat):Int))],[(0,⟨[.agg [I k.lo,I k.hi]],2,true⟩),(1,⟨yK.map Sn.D,2,false⟩)],2,1⟩=some (lr_ranges_each_3p2 r k (zP k yW yK)):=by
 intro yW
 induction yW with
 | nil =>
  intro xw yK yZ xL hB xV hk hg3p2_vc3p2_0 hL3p2
  unfold zP
  obtain rfl:xw=r.l.length:=nil_eq yZ xL
  exact zy [.dec false] (Ai (lt_no yZ) trivial) (by kernel_rfl)
 | cons xe yW ih =>
  intro xw yK yZ xL hB xV hk hg3p2_vc3p2_0 hL3p2
  have hlt3p2:=zg yZ
  have hbx:=hB xe (mem_drop yZ)
  have hlx:=times1_len xe k hbx hk
  unfold zP
  have p1:=(el_at (s:=r) (f:=Sn.D) (k:=2) yZ)
  cases h15:(z8 xe k).nl with
  | true =>
   have p2:=(Ai (show flat fuelD (.sl ((z8 xe k).nl) (((z8 xe k).l).map Sn.D) (zsl ((z8 xe k).nl) 2) none)=true from (by rw [h15] <;> kernel_rfl)) (Ai (trivial) (T_ranges_Times_1 xe k (by omega))))
   cases h16:((z8 xe k).l).isEmpty with
   | true =>
    exact zN (ks:=[1,5,8,9,10]) (st':=(sd40108 1 0 2 3 xw yK xe k r)) ((ranges_each_3p2c_l_o1 k xe)++[.op (some 18) ⟨.lsl 1 0 yK.length 2 none,[],[],3⟩,.rw 19 (I ((xw+1:Nat):Int))]) (Ai (ya (i:=xw) (by have:=zg yZ; omega)) (Ai (app_none (te:=zS) (gO:=zt [(0,⟨[.agg [I k.lo,I k.hi]],2,true⟩),(1,⟨yK.map Sn.D,2,false⟩),(2,⟨[.agg [I xe.lo,I xe.hi]],2,false⟩)]) (nxt:=3) (f:=Sn.D) (sz:=2) (d:=.lsl 1 0 yK.length 2 none) (z8 xe k) h16 rfl) (Ai p2 (Ai p1 (Ai (yb yZ) trivial))))) (by kernel_rfl) (by (simp only [sd40108,go_sem,List.length_set,Nat.reduceAdd,Nat.reduceEqDiff,Nat.reduceLT,Nat.reduceLeDiff,bI2,zc.idsL,zc.renL,zc.snapAll,z7.idsL,z7.renL,z7.snapAll]) <;> rfl) (ih (xw+1) yK (zh yZ) (zg yZ) (by omega) (by omega) (by omega) (by omega) (by omega)) (by kernel_rfl)
   | false =>
    exact zN (ks:=[1,5,8,9,10]) (st':=(sd40109 3 0 1 2 4 xw yK xe k r)) ((ranges_each_3p2c_l_o1 k xe)++[.op (some 18) ⟨.lsl 3 0 ((yK++((z8 xe k).l)).length) 2 none,[(1,none),(3,some ⟨(yK++((z8 xe k).l)).map Sn.D,2,false⟩)],[1],4⟩,.rw 19 (I ((xw+1:Nat):Int))]) (Ai (ya (i:=xw) (by have:=zg yZ; omega)) (Ai (app_moreD (te:=zS) (gO:=zt [(0,⟨[.agg [I k.lo,I k.hi]],2,true⟩),(1,⟨yK.map Sn.D,2,false⟩),(2,⟨[.agg [I xe.lo,I xe.hi]],2,false⟩)]) (nxt:=3) (o:=1) (v:=yK) z7 (z8 xe k) h16 (by kernel_rfl) rfl (by kernel_rfl) (by decide) ⟨by simp only [zS,big] <;> (omega),by simp only [big] <;> (omega)⟩) (Ai p2 (Ai p1 (Ai (yb yZ) trivial))))) (by kernel_rfl) (by (simp only [sd40109,go_sem,List.length_set,Nat.reduceAdd,Nat.reduceEqDiff,Nat.reduceLT,Nat.reduceLeDiff,bI2,zc.idsL,zc.renL,zc.snapAll,z7.idsL,z7.renL,z7.snapAll]) <;> rfl) (ih (xw+1) (yK++((z8 xe k).l)) (zh yZ) (zg yZ) (by omega) (by omega) (by omega) (by simp only [List.length_append,List.length_cons,List.length_nil] at * <;> omega) (by omega)) (by kernel_rfl)
  | false =>
   have p3:=(Ai (show flat fuelD (.sl ((z8 xe k).nl) (((z8 xe k).l).map Sn.D) (zsl ((z8 xe k).nl) 2) none)=false from (by rw [h15] <;> kernel_rfl)) (Ai (trivial) (T_ranges_Times_1 xe k (by omega))))
   cases h17:((z8 xe k).l).isEmpty with
   | true =>
    exact zN (ks:=[1,5,8,9,10]) (st':=(sd40108 1 0 2 3 xw yK xe k r)) ((ranges_each_3p2c_l_o2 k xe)++[.op (some 18) ⟨.lsl 1 0 yK.length 2 none,[],[],3⟩,.rw 19 (I ((xw+1:Nat):Int))]) (Ai (ya (i:=xw) (by have:=zg yZ; omega)) (Ai (app_none (te:=zS) (gO:=zt [(0,⟨[.agg [I k.lo,I k.hi]],2,true⟩),(1,⟨yK.map Sn.D,2,false⟩),(2,⟨[.agg [I xe.lo,I xe.hi]],2,false⟩)]) (nxt:=3) (f:=Sn.D) (sz:=2) (d:=.lsl 1 0 yK.length 2 none) (z8 xe k) h17 rfl) (Ai p3 (Ai p1 (Ai (yb yZ) trivial))))) (by kernel_rfl) (by (simp only [sd40108,go_sem,List.length_set,Nat.reduceAdd,Nat.reduceEqDiff,Nat.reduceLT,Nat.reduceLeDiff,bI2,zc.idsL,zc.renL,zc.snapAll,z7.idsL,z7.renL,z7.snapAll]) <;> rfl) (ih (xw+1) yK (zh yZ) (zg yZ) (by omega) (by omega) (by omega) (by omega) (by omega)) (by kernel_rfl)
   | false =>
    exact zN (ks:=[1,5,8,9,10]) (st':=(sd40109 3 0 1 2 4 xw yK xe k r)) ((ranges_each_3p2c_l_o2 k xe)++[.op (some 18) ⟨.lsl 3 0 ((yK++((z8 xe k).l)).length) 2 none,[(1,none),(3,some ⟨(yK++((z8 xe k).l)).map Sn.D,2,false⟩)],[1],4⟩,.rw 19 (I ((xw+1:Nat):Int))]) (Ai (ya (i:=xw) (by have:=zg yZ; omega)) (Ai (app_moreD (te:=zS) (gO:=zt [(0,⟨[.agg [I k.lo,I k.hi]],2,true⟩),(1,⟨yK.map Sn.D,2,false⟩),(2,⟨[.agg [I xe.lo,I xe.hi]],2,false⟩)]) (nxt:=3) (o:=1) (v:=yK) z7 (z8 xe k) h17 (by kernel_rfl) rfl (by kernel_rfl) (by decide) ⟨by simp only [zS,big] <;> (omega),by simp only [big] <;> (omega)⟩) (Ai p3 (Ai p1 (Ai (yb yZ) trivial))))) (by kernel_rfl) (by (simp only [sd40109,go_sem,List.length_set,Nat.reduceAdd,Nat.reduceEqDiff,Nat.reduceLT,Nat.reduceLeDiff,bI2,zc.idsL,zc.renL,zc.snapAll,z7.idsL,z7.renL,z7.snapAll]) <;> rfl) (ih (xw+1) (yK++((z8 xe k).l)) (zh yZ) (zg yZ) (by omega) (by omega) (by omega) (by simp only [List.length_append,List.length_cons,List.length_nil] at * <;> omega) (by omega)) (by kernel_rfl)
theorem ivt_ranges_each_3p2c (r:GS Sn) (k:Sn):∀ (yW:List Sn) (xw:Nat) (yK:List Sn) (yZ:r.l.drop xw=yW) (xL:xw≤r.l.length) (hB:∀ x∈r.l,-1099511627776≤x.lo∧x.lo≤x.hi∧x.hi≤1099511627776) (xV:r.l.length≤64) (hk:0≤k.lo∧k.lo≤k.hi∧k.hi≤1000) (hg3p2_vc3p2_0:yK.length≤4098 * xw) (hL3p2:r.l.length≤1099511627776),iv_ranges_each_3p2 r k (zP k yW yK):=by
 intro yW
 induction yW with
 | nil =>
  intro xw yK yZ xL hB xV hk hg3p2_vc3p2_0 hL3p2
  unfold zP
  obtain rfl:xw=r.l.length:=nil_eq yZ xL
  exact hg3p2_vc3p2_0
 | cons xe yW ih =>
  intro xw yK yZ xL hB xV hk hg3p2_vc3p2_0 hL3p2
  have hlt3p2:=zg yZ
  have hbx:=hB xe (mem_drop yZ)
  have hlx:=times1_len xe k hbx hk
  unfold zP
  cases h15:(z8 xe k).nl with
  | true =>
   cases h16:((z8 xe k).l).isEmpty with
   | true =>
    exact ih (xw+1) yK (zh yZ) (zg yZ) (by omega) (by omega) (by omega) (by omega) (by omega)
   | false =>
    exact ih (xw+1) (yK++((z8 xe k).l)) (zh yZ) (zg yZ) (by omega) (by omega) (by omega) (by simp only [List.length_append,List.length_cons,List.length_nil] at * <;> omega) (by omega)
  | false =>
   cases h17:((z8 xe k).l).isEmpty with
   | true =>
    exact ih (xw+1) yK (zh yZ) (zg yZ) (by omega) (by omega) (by omega) (by omega) (by omega)
   | false =>
    exact ih (xw+1) (yK++((z8 xe k).l)) (zh yZ) (zg yZ) (by omega) (by omega) (by omega) (by simp only [List.length_append,List.length_cons,List.length_nil] at * <;> omega) (by omega)
def ranges_each_3p2a_l_o1 (k:Sn) (xe:Sn):List Ora:=[.dec true,.el (.agg [I xe.lo,I xe.hi]),.pureS (.sl ((z8 xe k).nl) (((z8 xe k).l).map Sn.D) (zsl ((z8 xe k).nl) 2) none) true []]
def ranges_each_3p2a_l_o2 (k:Sn) (xe:Sn):List Ora:=[.dec true,.el (.agg [I xe.lo,I xe.hi]),.pureS (.sl ((z8 xe k).nl) (((z8 xe k).l).map Sn.D) (zsl ((z8 xe k).nl) 2) none) false []]
theorem lp_ranges_each_3p2a (r:GS Sn) (k:Sn):∀ (yW:List Sn) (xw:Nat) (yG:List Sn) (yZ:r.l.drop xw=yW) (xL:xw≤r.l.length) (hB:∀ x∈r.l,-1099511627776≤x.lo∧x.lo≤x.hi∧x.hi≤1099511627776) (xV:r.l.length≤64) (hk:0≤k.lo∧k.lo≤k.hi∧k.hi≤1000) (hg3p2_va3p2_0:yG.length≤4098 * xw) (hL3p2:r.l.length≤1099511627776),(lim cfg).loop 70 lp70_3 ⟨21,[(1,.fn (.func 71) [] [.lref 0 0 2 0]),(5,.lsl 1 0 yG.length 2 none),(8,.sl r.nl (r.l.map Sn.D) (zsl r.nl 2) none),(9,I ((r.l.length:Nat):Int)),(10,I ((xw:Nat):Int))],[(0,⟨[.agg [I k.lo,I k.hi]],2,false⟩),(1,⟨yG.map Sn.D,2,false⟩)],2,1⟩=some (lr_ranges_each_3p2 r k (yA k yW yG)):=by
 intro yW
 induction yW with
 | nil =>
  intro xw yG yZ xL hB xV hk hg3p2_va3p2_0 hL3p2
  unfold yA
  obtain rfl:xw=r.l.length:=nil_eq yZ xL
  exact zy [.dec false] (Ai (lt_no yZ) trivial) (by kernel_rfl)
 | cons xe yW ih =>
  intro xw yG yZ xL hB xV hk hg3p2_va3p2_0 hL3p2
  have hlt3p2:=zg yZ
  have hbx:=hB xe (mem_drop yZ)
  have hlx:=times1_len xe k hbx hk
  unfold yA
  have p1:=(el_at (s:=r) (f:=Sn.D) (k:=2) yZ)
  cases h18:(z8 xe k).nl with
  | true =>
   have p2:=(Ai (show flat fuelD (.sl ((z8 xe k).nl) (((z8 xe k).l).map Sn.D) (zsl ((z8 xe k).nl) 2) none)=true from (by rw [h18] <;> kernel_rfl)) (Ai (trivial) (T_ranges_Times_1 xe k (by omega))))
   cases h19:((z8 xe k).l).isEmpty with
   | true =>
    exact zN (ks:=[1,5,8,9,10]) (st':=(sd40110 1 0 2 3 xw yG xe k r)) ((ranges_each_3p2a_l_o1 k xe)++[.op (some 18) ⟨.lsl 1 0 yG.length 2 none,[],[],3⟩,.rw 19 (I ((xw+1:Nat):Int))]) (Ai (ya (i:=xw) (by have:=zg yZ; omega)) (Ai (app_none (te:=zS) (gO:=zt [(0,⟨[.agg [I k.lo,I k.hi]],2,false⟩),(1,⟨yG.map Sn.D,2,false⟩),(2,⟨[.agg [I xe.lo,I xe.hi]],2,false⟩)]) (nxt:=3) (f:=Sn.D) (sz:=2) (d:=.lsl 1 0 yG.length 2 none) (z8 xe k) h19 rfl) (Ai p2 (Ai p1 (Ai (yb yZ) trivial))))) (by kernel_rfl) (by (simp only [sd40110,go_sem,List.length_set,Nat.reduceAdd,Nat.reduceEqDiff,Nat.reduceLT,Nat.reduceLeDiff,bI2,zc.idsL,zc.renL,zc.snapAll,z7.idsL,z7.renL,z7.snapAll]) <;> rfl) (ih (xw+1) yG (zh yZ) (zg yZ) (by omega) (by omega) (by omega) (by omega) (by omega)) (by kernel_rfl)
   | false =>
    exact zN (ks:=[1,5,8,9,10]) (st':=(sd40111 3 0 1 2 4 xw yG xe k r)) ((ranges_each_3p2a_l_o1 k xe)++[.op (some 18) ⟨.lsl 3 0 ((yG++((z8 xe k).l)).length) 2 none,[(1,none),(3,some ⟨(yG++((z8 xe k).l)).map Sn.D,2,false⟩)],[1],4⟩,.rw 19 (I ((xw+1:Nat):Int))]) (Ai (ya (i:=xw) (by have:=zg yZ; omega)) (Ai (app_moreD (te:=zS) (gO:=zt [(0,⟨[.agg [I k.lo,I k.hi]],2,false⟩),(1,⟨yG.map Sn.D,2,false⟩),(2,⟨[.agg [I xe.lo,I xe.hi]],2,false⟩)]) (nxt:=3) (o:=1) (v:=yG) z7 (z8 xe k) h19 (by kernel_rfl) rfl (by kernel_rfl) (by decide) ⟨by simp only [zS,big] <;> (omega),by simp only [big] <;> (omega)⟩) (Ai p2 (Ai p1 (Ai (yb yZ) trivial))))) (by kernel_rfl) (by (simp only [sd40111,go_sem,List.length_set,Nat.reduceAdd,Nat.reduceEqDiff,Nat.reduceLT,Nat.reduceLeDiff,bI2,zc.idsL,zc.renL,zc.snapAll,z7.idsL,z7.renL,z7.snapAll]) <;> rfl) (ih (xw+1) (yG++((z8 xe k).l)) (zh yZ) (zg yZ) (by omega) (by omega) (by omega) (by simp only [List.length_append,List.length_cons,List.length_nil] at * <;> omega) (by omega)) (by kernel_rfl)
  | false =>
   have p3:=(Ai (show flat fuelD (.sl ((z8 xe k).nl) (((z8 xe k).l).map Sn.D) (zsl ((z8 xe k).nl) 2) none)=false from (by rw [h18] <;> kernel_rfl)) (Ai (trivial) (T_ranges_Times_1 xe k (by omega))))
   cases h20:((z8 xe k).l).isEmpty with
   | true =>
    exact zN (ks:=[1,5,8,9,10]) (st':=(sd40108 1 0 2 3 xw yG xe k r)) ((ranges_each_3p2a_l_o2 k xe)++[.op (some 18) ⟨.lsl 1 0 yG.length 2 none,[],[],3⟩,.rw 19 (I ((xw+1:Nat):Int))]) (Ai (ya (i:=xw) (by have:=zg yZ; omega)) (Ai (app_none (te:=zS) (gO:=zt [(0,⟨[.agg [I k.lo,I k.hi]],2,true⟩),(1,⟨yG.map Sn.D,2,false⟩),(2,⟨[.agg [I xe.lo,I xe.hi]],2,false⟩)]) (nxt:=3) (f:=Sn.D) (sz:=2) (d:=.lsl 1 0 yG.length 2 none) (z8 xe k) h20 rfl) (Ai p3 (Ai p1 (Ai (yb yZ) trivial))))) (by kernel_rfl) (by (simp only [sd40108,go_sem,List.length_set,Nat.reduceAdd,Nat.reduceEqDiff,Nat.reduceLT,Nat.reduceLeDiff,bI2,zc.idsL,zc.renL,zc.snapAll,z7.idsL,z7.renL,z7.snapAll]) <;> rfl) (lp_ranges_each_3p2c r k _ (xw+1) yG (zh yZ) (zg yZ) (by omega) (by omega) (by omega) (by omega) (by omega)) (by kernel_rfl)
   | false =>
    exact zN (ks:=[1,5,8,9,10]) (st':=(sd40109 3 0 1 2 4 xw yG xe k r)) ((ranges_each_3p2a_l_o2 k xe)++[.op (some 18) ⟨.lsl 3 0 ((yG++((z8 xe k).l)).length) 2 none,[(1,none),(3,some ⟨(yG++((z8 xe k).l)).map Sn.D,2,false⟩)],[1],4⟩,.rw 19 (I ((xw+1:Nat):Int))]) (Ai (ya (i:=xw) (by have:=zg yZ; omega)) (Ai (app_moreD (te:=zS) (gO:=zt [(0,⟨[.agg [I k.lo,I k.hi]],2,true⟩),(1,⟨yG.map Sn.D,2,false⟩),(2,⟨[.agg [I xe.lo,I xe.hi]],2,false⟩)]) (nxt:=3) (o:=1) (v:=yG) z7 (z8 xe k) h20 (by kernel_rfl) rfl (by kernel_rfl) (by decide) ⟨by simp only [zS,big] <;> (omega),by simp only [big] <;> (omega)⟩) (Ai p3 (Ai p1 (Ai (yb yZ) trivial))))) (by kernel_rfl) (by (simp only [sd40109,go_sem,List.length_set,Nat.reduceAdd,Nat.reduceEqDiff,Nat.reduceLT,Nat.reduceLeDiff,bI2,zc.idsL,zc.renL,zc.snapAll,z7.idsL,z7.renL,z7.snapAll]) <;> rfl) (lp_ranges_each_3p2c r k _ (xw+1) (yG++((z8 xe k).l)) (zh yZ) (zg yZ) (by omega) (by omega) (by omega) (by simp only [List.length_append,List.length_cons,List.length_nil] at * <;> omega) (by omega)) (by kernel_rfl)
theorem ivt_ranges_each_3p2a (r:GS Sn) (k:Sn):∀ (yW:List Sn) (xw:Nat) (yG:List Sn) (yZ:r.l.drop xw=yW) (xL:xw≤r.l.length) (hB:∀ x∈r.l,-1099511627776≤x.lo∧x.lo≤x.hi∧x.hi≤1099511627776) (xV:r.l.length≤64) (hk:0≤k.lo∧k.lo≤k.hi∧k.hi≤1000) (hg3p2_va3p2_0:yG.length≤4098 * xw) (hL3p2:r.l.length≤1099511627776),iv_ranges_each_3p2 r k (yA k yW yG):=by
 intro yW
 induction yW with
 | nil =>
  intro xw yG yZ xL hB xV hk hg3p2_va3p2_0 hL3p2
  unfold yA
  obtain rfl:xw=r.l.length:=nil_eq yZ xL
  exact hg3p2_va3p2_0
 | cons xe yW ih =>
  intro xw yG yZ xL hB xV hk hg3p2_va3p2_0 hL3p2
  have hlt3p2:=zg yZ
  have hbx:=hB xe (mem_drop yZ)
  have hlx:=times1_len xe k hbx hk
  unfold yA
  cases h18:(z8 xe k).nl with
  | true =>
   cases h19:((z8 xe k).l).isEmpty with
   | true =>
    exact ih (xw+1) yG (zh yZ) (zg yZ) (by omega) (by omega) (by omega) (by omega) (by omega)
   | false =>
    exact ih (xw+1) (yG++((z8 xe k).l)) (zh yZ) (zg yZ) (by omega) (by omega) (by omega) (by simp only [List.length_append,List.length_cons,List.length_nil] at * <;> omega) (by omega)
  | false =>
   cases h20:((z8 xe k).l).isEmpty with
   | true =>
    exact ivt_ranges_each_3p2c r k _ (xw+1) yG (zh yZ) (zg yZ) (by omega) (by omega) (by omega) (by omega) (by omega)
   | false =>
    exact ivt_ranges_each_3p2c r k _ (xw+1) (yG++((z8 xe k).l)) (zh yZ) (zg yZ) (by omega) (by omega) (by omega) (by simp only [List.length_append,List.length_cons,List.length_nil] at * <;> omega) (by omega)
def ranges_each_3p2b_l_o1 (k:Sn) (xe:Sn):List Ora:=[.dec true,.el (.agg [I xe.lo,I xe.hi]),.pureS (.sl ((z8 xe k).nl) (((z8 xe k).l).map Sn.D) (zsl ((z8 xe k).nl) 2) none) true []]
def ranges_each_3p2b_l_o2 (k:Sn) (xe:Sn):List Ora:=[.dec true,.el (.agg [I xe.lo,I xe.hi]),.pureS (.sl ((z8 xe k).nl) (((z8 xe k).l).map Sn.D) (zsl ((z8 xe k).nl) 2) none) false []]
theorem lp_ranges_each_3p2b (r:GS Sn) (k:Sn):∀ (yW:List Sn) (xw:Nat) (yZ:r.l.drop xw=yW) (xL:xw≤r.l.length) (hB:∀ x∈r.l,-1099511627776≤x.lo∧x.lo≤x.hi∧x.hi≤1099511627776) (xV:r.l.length≤64) (hk:0≤k.lo∧k.lo≤k.hi∧k.hi≤1000) (hL3p2:r.l.length≤1099511627776),(lim cfg).loop 70 lp70_3 ⟨21,[(1,.fn (.func 71) [] [.lref 0 0 2 0]),(5,.sl true [] 0 none),(8,.sl r.nl (r.l.map Sn.D) (zsl r.nl 2) none),(9,I ((r.l.length:Nat):Int)),(10,I ((xw:Nat):Int))],[(0,⟨[.agg [I k.lo,I k.hi]],2,true⟩)],1,1⟩=some (lr_ranges_each_3p2 r k (ranges_each_3p2b k yW)):=by
 intro yW
 induction yW with
 | nil =>
  intro xw yZ xL hB xV hk hL3p2
  unfold ranges_each_3p2b
  obtain rfl:xw=r.l.length:=nil_eq yZ xL
  exact zy [.dec false] (Ai (lt_no yZ) trivial) (by kernel_rfl)
 | cons xe yW ih =>
  intro xw yZ xL hB xV hk hL3p2
  have hlt3p2:=zg yZ
  have hbx:=hB xe (mem_drop yZ)
  have hlx:=times1_len xe k hbx hk
  unfold ranges_each_3p2b
  have p1:=(el_at (s:=r) (f:=Sn.D) (k:=2) yZ)
  cases h21:(z8 xe k).nl with
  | true =>
   have p2:=(Ai (show flat fuelD (.sl ((z8 xe k).nl) (((z8 xe k).l).map Sn.D) (zsl ((z8 xe k).nl) 2) none)=true from (by rw [h21] <;> kernel_rfl)) (Ai (trivial) (T_ranges_Times_1 xe k (by omega))))
   cases h22:((z8 xe k).l).isEmpty with
   | true =>
    exact po_turn ((ranges_each_3p2b_l_o1 k xe)++[.op (some 18) ⟨.sl true [] 0 none,[],[],2⟩,.rw 19 (I ((xw+1:Nat):Int))]) (Ai (ya (i:=xw) (by have:=zg yZ; omega)) (Ai (app_none (te:=zS) (gO:=zt [(0,⟨[.agg [I k.lo,I k.hi]],2,true⟩),(1,⟨[.agg [I xe.lo,I xe.hi]],2,false⟩)]) (nxt:=2) (f:=Sn.D) (sz:=2) (d:=.sl true [] 0 none) (z8 xe k) h22 rfl) (Ai p2 (Ai p1 (Ai (yb yZ) trivial))))) (ih (xw+1) (zh yZ) (zg yZ) (by omega) (by omega) (by omega) (by omega)) (by kernel_rfl)
   | false =>
    exact zN (ks:=[1,5,8,9,10]) (st':=(sd40112 2 0 1 3 xw xe k r)) ((ranges_each_3p2b_l_o1 k xe)++[.op (some 18) ⟨.lsl 2 0 (((z8 xe k).l).length) 2 none,[(2,some ⟨((z8 xe k).l).map Sn.D,2,false⟩)],[],3⟩,.rw 19 (I ((xw+1:Nat):Int))]) (Ai (ya (i:=xw) (by have:=zg yZ; omega)) (Ai (app_newD (te:=zS) (gO:=zt [(0,⟨[.agg [I k.lo,I k.hi]],2,true⟩),(1,⟨[.agg [I xe.lo,I xe.hi]],2,false⟩)]) (nxt:=2) (els0:=[]) (sz0:=0) (cap0:=none) z7 (z8 xe k) h22 rfl (by kernel_rfl) (by decide) ⟨by simp only [zS,big] <;> (omega),by simp only [big] <;> (omega)⟩) (Ai p2 (Ai p1 (Ai (yb yZ) trivial))))) (by kernel_rfl) (by (simp only [sd40112,go_sem,List.length_set,Nat.reduceAdd,Nat.reduceEqDiff,Nat.reduceLT,Nat.reduceLeDiff,bI2,zc.idsL,zc.renL,zc.snapAll,z7.idsL,z7.renL,z7.snapAll]) <;> rfl) (lp_ranges_each_3p2c r k _ (xw+1) ((z8 xe k).l) (zh yZ) (zg yZ) (by omega) (by omega) (by omega) (by omega) (by omega)) (by kernel_rfl)
  | false =>
   have p3:=(Ai (show flat fuelD (.sl ((z8 xe k).nl) (((z8 xe k).l).map Sn.D) (zsl ((z8 xe k).nl) 2) none)=false from (by rw [h21] <;> kernel_rfl)) (Ai (trivial) (T_ranges_Times_1 xe k (by omega))))
   cases h23:((z8 xe k).l).isEmpty with
   | true =>
    exact po_turn ((ranges_each_3p2b_l_o2 k xe)++[.op (some 18) ⟨.sl true [] 0 none,[],[],2⟩,.rw 19 (I ((xw+1:Nat):Int))]) (Ai (ya (i:=xw) (by have:=zg yZ; omega)) (Ai (app_none (te:=zS) (gO:=zt [(0,⟨[.agg [I k.lo,I k.hi]],2,true⟩),(1,⟨[.agg [I xe.lo,I xe.hi]],2,false⟩)]) (nxt:=2) (f:=Sn.D) (sz:=2) (d:=.sl true [] 0 none) (z8 xe k) h23 rfl) (Ai p3 (Ai p1 (Ai (yb yZ) trivial))))) (ih (xw+1) (zh yZ) (zg yZ) (by omega) (by omega) (by omega) (by omega)) (by kernel_rfl)
   | false =>
    exact zN (ks:=[1,5,8,9,10]) (st':=(sd40112 2 0 1 3 xw xe k r)) ((ranges_each_3p2b_l_o2 k xe)++[.op (some 18) ⟨.lsl 2 0 (((z8 xe k).l).length) 2 none,[(2,some ⟨((z8 xe k).l).map Sn.D,2,false⟩)],[],3⟩,.rw 19 (I ((xw+1:Nat):Int))]) (Ai (ya (i:=xw) (by have:=zg yZ; omega)) (Ai (app_newD (te:=zS) (gO:=zt [(0,⟨[.agg [I k.lo,I k.hi]],2,true⟩),(1,⟨[.agg [I xe.lo,I xe.hi]],2,false⟩)]) (nxt:=2) (els0:=[]) (sz0:=0) (cap0:=none) z7 (z8 xe k) h23 rfl (by kernel_rfl) (by decide) ⟨by simp only [zS,big] <;> (omega),by simp only [big] <;> (omega)⟩) (Ai p3 (Ai p1 (Ai (yb yZ) trivial))))) (by kernel_rfl) (by (simp only [sd40112,go_sem,List.length_set,Nat.reduceAdd,Nat.reduceEqDiff,Nat.reduceLT,Nat.reduceLeDiff,bI2,zc.idsL,zc.renL,zc.snapAll,z7.idsL,z7.renL,z7.snapAll]) <;> rfl) (lp_ranges_each_3p2c r k _ (xw+1) ((z8 xe k).l) (zh yZ) (zg yZ) (by omega) (by omega) (by omega) (by omega) (by omega)) (by kernel_rfl)
theorem ivt_ranges_each_3p2b (r:GS Sn) (k:Sn):∀ (yW:List Sn) (xw:Nat) (yZ:r.l.drop xw=yW) (xL:xw≤r.l.length) (hB:∀ x∈r.l,-1099511627776≤x.lo∧x.lo≤x.hi∧x.hi≤1099511627776) (xV:r.l.length≤64) (hk:0≤k.lo∧k.lo≤k.hi∧k.hi≤1000) (hL3p2:r.l.length≤1099511627776),iv_ranges_each_3p2 r k (ranges_each_3p2b k yW):=by
 intro yW
 induction yW with
 | nil =>
  intro xw yZ xL hB xV hk hL3p2
  unfold ranges_each_3p2b
  obtain rfl:xw=r.l.length:=nil_eq yZ xL
  exact trivial
 | cons xe yW ih =>
  intro xw yZ xL hB xV hk hL3p2
  have hlt3p2:=zg yZ
  have hbx:=hB xe (mem_drop yZ)
  have hlx:=times1_len xe k hbx hk
  unfold ranges_each_3p2b
  cases h21:(z8 xe k).nl with
  | true =>
   cases h22:((z8 xe k).l).isEmpty with
   | true =>
    exact ih (xw+1) (zh yZ) (zg yZ) (by omega) (by omega) (by omega) (by omega)
   | false =>
    exact ivt_ranges_each_3p2c r k _ (xw+1) ((z8 xe k).l) (zh yZ) (zg yZ) (by omega) (by omega) (by omega) (by omega) (by omega)
  | false =>
   cases h23:((z8 xe k).l).isEmpty with
   | true =>
    exact ih (xw+1) (zh yZ) (zg yZ) (by omega) (by omega) (by omega) (by omega)
   | false =>
    exact ivt_ranges_each_3p2c r k _ (xw+1) ((z8 xe k).l) (zh yZ) (zg yZ) (by omega) (by omega) (by omega) (by omega) (by omega)
def ranges_each_3p2_l_o1 (k:Sn) (xe:Sn):List Ora:=[.dec true,.el (.agg [I xe.lo,I xe.hi]),.pureS (.sl ((z8 xe k).nl) (((z8 xe k).l).map Sn.D) (zsl ((z8 xe k).nl) 2) none) true []]
def ranges_each_3p2_l_o2 (k:Sn) (xe:Sn):List Ora:=[.dec true,.el (.agg [I xe.lo,I xe.hi]),.pureS (.sl ((z8 xe k).nl) (((z8 xe k).l).map Sn.D) (zsl ((z8 xe k).nl) 2) none) false []]
theorem lp_ranges_each_3p2 (r:GS Sn) (k:Sn):∀ (yW:List Sn) (xw:Nat) (yZ:r.l.drop xw=yW) (xL:xw≤r.l.length) (hB:∀ x∈r.l,-1099511627776≤x.lo∧x.lo≤x.hi∧x.hi≤1099511627776) (xV:r.l.length≤64) (hk:0≤k.lo∧k.lo≤k.hi∧k.hi≤1000) (hL3p2:r.l.length≤1099511627776),(lim cfg).loop 70 lp70_3 ⟨21,[(1,.fn (.func 71) [] [.lref 0 0 2 0]),(5,.sl true [] 0 none),(8,.sl r.nl (r.l.map Sn.D) (zsl r.nl 2) none),(9,I ((r.l.length:Nat):Int)),(10,I ((xw:Nat):Int))],[(0,⟨[.agg [I k.lo,I k.hi]],2,false⟩)],1,1⟩=some (lr_ranges_each_3p2 r k (ranges_each_3p2 k yW)):=by
 intro yW
 induction yW with
 | nil =>
  intro xw yZ xL hB xV hk hL3p2
  unfold ranges_each_3p2
  obtain rfl:xw=r.l.length:=nil_eq yZ xL
  exact zy [.dec false] (Ai (lt_no yZ) trivial) (by kernel_rfl)
 | cons xe yW ih =>
  intro xw yZ xL hB xV hk hL3p2
  have hlt3p2:=zg yZ
  have hbx:=hB xe (mem_drop yZ)
  have hlx:=times1_len xe k hbx hk
  unfold ranges_each_3p2
  have p1:=(el_at (s:=r) (f:=Sn.D) (k:=2) yZ)
  cases h24:(z8 xe k).nl with
  | true =>
   have p2:=(Ai (show flat fuelD (.sl ((z8 xe k).nl) (((z8 xe k).l).map Sn.D) (zsl ((z8 xe k).nl) 2) none)=true from (by rw [h24] <;> kernel_rfl)) (Ai (trivial) (T_ranges_Times_1 xe k (by omega))))
   cases h25:((z8 xe k).l).isEmpty with
   | true =>
    exact po_turn ((ranges_each_3p2_l_o1 k xe)++[.op (some 18) ⟨.sl true [] 0 none,[],[],2⟩,.rw 19 (I ((xw+1:Nat):Int))]) (Ai (ya (i:=xw) (by have:=zg yZ; omega)) (Ai (app_none (te:=zS) (gO:=zt [(0,⟨[.agg [I k.lo,I k.hi]],2,false⟩),(1,⟨[.agg [I xe.lo,I xe.hi]],2,false⟩)]) (nxt:=2) (f:=Sn.D) (sz:=2) (d:=.sl true [] 0 none) (z8 xe k) h25 rfl) (Ai p2 (Ai p1 (Ai (yb yZ) trivial))))) (ih (xw+1) (zh yZ) (zg yZ) (by omega) (by omega) (by omega) (by omega)) (by kernel_rfl)
   | false =>
    exact zN (ks:=[1,5,8,9,10]) (st':=(sd40113 2 0 1 3 xw xe k r)) ((ranges_each_3p2_l_o1 k xe)++[.op (some 18) ⟨.lsl 2 0 (((z8 xe k).l).length) 2 none,[(2,some ⟨((z8 xe k).l).map Sn.D,2,false⟩)],[],3⟩,.rw 19 (I ((xw+1:Nat):Int))]) (Ai (ya (i:=xw) (by have:=zg yZ; omega)) (Ai (app_newD (te:=zS) (gO:=zt [(0,⟨[.agg [I k.lo,I k.hi]],2,false⟩),(1,⟨[.agg [I xe.lo,I xe.hi]],2,false⟩)]) (nxt:=2) (els0:=[]) (sz0:=0) (cap0:=none) z7 (z8 xe k) h25 rfl (by kernel_rfl) (by decide) ⟨by simp only [zS,big] <;> (omega),by simp only [big] <;> (omega)⟩) (Ai p2 (Ai p1 (Ai (yb yZ) trivial))))) (by kernel_rfl) (by (simp only [sd40113,go_sem,List.length_set,Nat.reduceAdd,Nat.reduceEqDiff,Nat.reduceLT,Nat.reduceLeDiff,bI2,zc.idsL,zc.renL,zc.snapAll,z7.idsL,z7.renL,z7.snapAll]) <;> rfl) (lp_ranges_each_3p2a r k _ (xw+1) ((z8 xe k).l) (zh yZ) (zg yZ) (by omega) (by omega) (by omega) (by omega) (by omega)) (by kernel_rfl)
  | false =>
   have p3:=(Ai (show flat fuelD (.sl ((z8 xe k).nl) (((z8 xe k).l).map Sn.D) (zsl ((z8 xe k).nl) 2) none)=false from (by rw [h24] <;> kernel_rfl)) (Ai (trivial) (T_ranges_Times_1 xe k (by omega))))
   cases h26:((z8 xe k).l).isEmpty with
   | true =>
    exact po_turn ((ranges_each_3p2_l_o2 k xe)++[.op (some 18) ⟨.sl true [] 0 none,[],[],2⟩,.rw 19 (I ((xw+1:Nat):Int))]) (Ai (ya (i:=xw) (by have:=zg yZ; omega)) (Ai (app_none (te:=zS) (gO:=zt [(0,⟨[.agg [I k.lo,I k.hi]],2,true⟩),(1,⟨[.agg [I xe.lo,I xe.hi]],2,false⟩)]) (nxt:=2) (f:=Sn.D) (sz:=2) (d:=.sl true [] 0 none) (z8 xe k) h26 rfl) (Ai p3 (Ai p1 (Ai (yb yZ) trivial))))) (lp_ranges_each_3p2b r k _ (xw+1) (zh yZ) (zg yZ) (by omega) (by omega) (by omega) (by omega)) (by kernel_rfl)
   | false =>
    exact zN (ks:=[1,5,8,9,10]) (st':=(sd40112 2 0 1 3 xw xe k r)) ((ranges_each_3p2_l_o2 k xe)++[.op (some 18) ⟨.lsl 2 0 (((z8 xe k).l).length) 2 none,[(2,some ⟨((z8 xe k).l).map Sn.D,2,false⟩)],[],3⟩,.rw 19 (I ((xw+1:Nat):Int))]) (Ai (ya (i:=xw) (by have:=zg yZ; omega)) (Ai (app_newD (te:=zS) (gO:=zt [(0,⟨[.agg [I k.lo,I k.hi]],2,true⟩),(1,⟨[.agg [I xe.lo,I xe.hi]],2,false⟩)]) (nxt:=2) (els0:=[]) (sz0:=0) (cap0:=none) z7 (z8 xe k) h26 rfl (by kernel_rfl) (by decide) ⟨by simp only [zS,big] <;> (omega),by simp only [big] <;> (omega)⟩) (Ai p3 (Ai p1 (Ai (yb yZ) trivial))))) (by kernel_rfl) (by (simp only [sd40112,go_sem,List.length_set,Nat.reduceAdd,Nat.reduceEqDiff,Nat.reduceLT,Nat.reduceLeDiff,bI2,zc.idsL,zc.renL,zc.snapAll,z7.idsL,z7.renL,z7.snapAll]) <;> rfl) (lp_ranges_each_3p2c r k _ (xw+1) ((z8 xe k).l) (zh yZ) (zg yZ) (by omega) (by omega) (by omega) (by omega) (by omega)) (by kernel_rfl)
theorem ivt_ranges_each_3p2 (r:GS Sn) (k:Sn):∀ (yW:List Sn) (xw:Nat) (yZ:r.l.drop xw=yW) (xL:xw≤r.l.length) (hB:∀ x∈r.l,-1099511627776≤x.lo∧x.lo≤x.hi∧x.hi≤1099511627776) (xV:r.l.length≤64) (hk:0≤k.lo∧k.lo≤k.hi∧k.hi≤1000) (hL3p2:r.l.length≤1099511627776),iv_ranges_each_3p2 r k (ranges_each_3p2 k yW):=by
 intro yW
 induction yW with
 | nil =>
  intro xw yZ xL hB xV hk hL3p2
  unfold ranges_each_3p2
  obtain rfl:xw=r.l.length:=nil_eq yZ xL
  exact trivial
 | cons xe yW ih =>
  intro xw yZ xL hB xV hk hL3p2
  have hlt3p2:=zg yZ
  have hbx:=hB xe (mem_drop yZ)
  have hlx:=times1_len xe k hbx hk
  unfold ranges_each_3p2
  cases h24:(z8 xe k).nl with
  | true =>
   cases h25:((z8 xe k).l).isEmpty with
   | true =>
    exact ih (xw+1) (zh yZ) (zg yZ) (by omega) (by omega) (by omega) (by omega)
   | false =>
    exact ivt_ranges_each_3p2a r k _ (xw+1) ((z8 xe k).l) (zh yZ) (zg yZ) (by omega) (by omega) (by omega) (by omega) (by omega)
  | false =>
   cases h26:((z8 xe k).l).isEmpty with
   | true =>
    exact ivt_ranges_each_3p2b r k _ (xw+1) (zh yZ) (zg yZ) (by omega) (by omega) (by omega) (by omega)
   | false =>
    exact ivt_ranges_each_3p2c r k _ (xw+1) ((z8 xe k).l) (zh yZ) (zg yZ) (by omega) (by omega) (by omega) (by omega) (by omega)

def zb (r:GS Sn) (k:Sn):(GS Sn) × Int :=
 bif ((zv r) != 0) then
  (GS.nil,(zv r))
 else
  bif (zV k 0) then
   match ranges_each_3p2 k r.l with
   | .x0 yK =>
    match zA (zz zx yK) 0 with
    | .x0 yH =>
     bif decide (((yH.length:Nat):Int) > 64) then
      (GS.nil,2)
     else
      (GS.some yH,0)
    | .x1 xu xc yH =>
     (GS.nil,2)
    | .x2 xu xc yH =>
     (GS.nil,2)
    | .x3 =>
     (GS.nil,0)
    | .x4 xu xc =>
     (GS.nil,2)
    | .x5 xu xc =>
     (GS.nil,2)
   | .x1 yG =>
    match zA (zz zx yG) 0 with
    | .x0 yH =>
     bif decide (((yH.length:Nat):Int) > 64) then
      (GS.nil,2)
     else
      (GS.some yH,0)
    | .x1 xu xc yH =>
     (GS.nil,2)
    | .x2 xu xc yH =>
     (GS.nil,2)
    | .x3 =>
     (GS.nil,0)
    | .x4 xu xc =>
     (GS.nil,2)
    | .x5 xu xc =>
     (GS.nil,2)
   | .x2 =>
    (GS.nil,0)
   | .x3 =>
    (GS.nil,0)
  else
   (GS.nil,1)

def ranges_Times_o1 (r:GS Sn) (k:Sn) (yK:List Sn):List Ora:=[.pure (I (zv r)),.dec false,.pure (B (zV k 0)),.dec true,.inl (.lsl 1 0 yK.length 2 none) [(0,⟨[.agg [I k.lo,I k.hi]],2,true⟩),(1,⟨yK.map Sn.D,2,false⟩)] 2]

def ranges_Times_o2 (r:GS Sn) (k:Sn) (yG:List Sn):List Ora:=[.pure (I (zv r)),.dec false,.pure (B (zV k 0)),.dec true,.inl (.lsl 1 0 yG.length 2 none) [(0,⟨[.agg [I k.lo,I k.hi]],2,false⟩),(1,⟨yG.map Sn.D,2,false⟩)] 2]

def zB (ν0 ν1:Nat) (μ0:List Sn):St:=⟨65,[(4,.sl true [] 0 none),(10,.lsl ν0 0 μ0.length 2 none),(11,I ((μ0.length:Nat):Int)),(12,I 0)],[(ν0,⟨(zz zx μ0).map Sn.D,2,false⟩)],ν1,ν1⟩

def sd40116 (ν0 ν1 ν2:Nat) (μ0:List Sn) (μ1:List Sn):St:=⟨65,[(13,B false),(4,.lsl ν0 0 μ0.length 2 none),(10,.lsl ν1 0 μ1.length 2 none),(11,I ((μ1.length:Nat):Int)),(12,I (((zz zx μ1).length:Nat):Int))],[(ν1,⟨(zz zx μ1).map Sn.D,2,false⟩),(ν0,⟨μ0.map Sn.D,2,false⟩)],ν2,ν0⟩

def zT (ν0 ν1:Nat) (μ0:List Sn):St:=⟨65,[(12,I 0),(11,I ((μ0.length:Nat):Int)),(10,.lsl ν0 0 μ0.length 2 none),(4,.sl true [] 0 none),(9,.tup []),(8,.lsl ν0 0 μ0.length 2 none),(3,I 0),(2,.sl true [] 0 none),(0,.lsl ν0 0 μ0.length 2 none)],[(ν0,⟨(zz zx μ0).map Sn.D,2,false⟩)],ν1,ν1⟩

def sd40117 (ν0 ν1 ν2 ν3:Nat) (μ0:Sn) (μ1:Nat) (μ2:List Sn) (μ3:List Sn):St:=⟨65,[(3,I 2),(2,.sl true [] 0 none),(25,B true),(24,B true),(23,B false),(22,I μ0.hi),(21,.lref ν0 0 2 1),(20,B false),(19,B false),(18,B true),(17,I μ0.lo),(16,.lref ν0 0 2 0),(6,.lref ν0 0 2 0),(15,.agg [I μ0.lo,I μ0.hi]),(14,.lref ν1 μ1 2 0),(13,B true),(4,.lsl ν2 0 μ2.length 2 none),(10,.lsl ν1 0 μ3.length 2 none),(11,I ((μ3.length:Nat):Int)),(12,I ((μ1:Nat):Int))],[(ν1,⟨(zz zx μ3).map Sn.D,2,false⟩),(ν2,⟨μ2.map Sn.D,2,false⟩),(ν0,⟨[.agg [I μ0.lo,I μ0.hi]],2,false⟩)],ν3,ν2⟩

def sd40118 (ν0 ν1 ν2 ν3:Nat) (μ0:Sn) (μ1:Nat) (μ2:List Sn) (μ3:List Sn):St:=⟨65,[(3,I 2),(2,.sl true [] 0 none),(25,B true),(24,.tup []),(23,.tup []),(22,.tup []),(21,.tup []),(20,B true),(19,B true),(18,B false),(17,I μ0.lo),(16,.lref ν0 0 2 0),(6,.lref ν0 0 2 0),(15,.agg [I μ0.lo,I μ0.hi]),(14,.lref ν1 μ1 2 0),(13,B true),(4,.lsl ν2 0 μ2.length 2 none),(10,.lsl ν1 0 μ3.length 2 none),(11,I ((μ3.length:Nat):Int)),(12,I ((μ1:Nat):Int))],[(ν1,⟨(zz zx μ3).map Sn.D,2,false⟩),(ν2,⟨μ2.map Sn.D,2,false⟩),(ν0,⟨[.agg [I μ0.lo,I μ0.hi]],2,false⟩)],ν3,ν2⟩

def sd40119 (ν0 ν1:Nat) (μ0:List Sn):St:=⟨65,[(13,B false),(4,.sl true [] 0 none),(10,.lsl ν0 0 μ0.length 2 none),(11,I ((μ0.length:Nat):Int)),(12,I (((zz zx μ0).length:Nat):Int))],[(ν0,⟨(zz zx μ0).map Sn.D,2,false⟩)],ν1,ν1⟩

def sd40120 (ν0 ν1 ν2:Nat) (μ0:Sn) (μ1:Nat) (μ2:List Sn):St:=⟨65,[(3,I 2),(2,.sl true [] 0 none),(25,B true),(24,B true),(23,B false),(22,I μ0.hi),(21,.lref ν0 0 2 1),(20,B false),(19,B false),(18,B true),(17,I μ0.lo),(16,.lref ν0 0 2 0),(6,.lref ν0 0 2 0),(15,.agg [I μ0.lo,I μ0.hi]),(14,.lref ν1 μ1 2 0),(13,B true),(4,.sl true [] 0 none),(10,.lsl ν1 0 μ2.length 2 none),(11,I ((μ2.length:Nat):Int)),(12,I ((μ1:Nat):Int))],[(ν1,⟨(zz zx μ2).map Sn.D,2,false⟩),(ν0,⟨[.agg [I μ0.lo,I μ0.hi]],2,false⟩)],ν2,ν0⟩

def sd40121 (ν0 ν1 ν2:Nat) (μ0:Sn) (μ1:Nat) (μ2:List Sn):St:=⟨65,[(3,I 2),(2,.sl true [] 0 none),(25,B true),(24,.tup []),(23,.tup []),(22,.tup []),(21,.tup []),(20,B true),(19,B true),(18,B false),(17,I μ0.lo),(16,.lref ν0 0 2 0),(6,.lref ν0 0 2 0),(15,.agg [I μ0.lo,I μ0.hi]),(14,.lref ν1 μ1 2 0),(13,B true),(4,.sl true [] 0 none),(10,.lsl ν1 0 μ2.length 2 none),(11,I ((μ2.length:Nat):Int)),(12,I ((μ1:Nat):Int))],[(ν1,⟨(zz zx μ2).map Sn.D,2,false⟩),(ν0,⟨[.agg [I μ0.lo,I μ0.hi]],2,false⟩)],ν2,ν0⟩

theorem T_ranges_Times (r:GS Sn) (k:Sn) (hLr:r.l.length≤9223372036854775807) (hL_r:r.l.length≤9223372036854775807):(lim cfg).pure 17 [GS.D Sn.D 2 r,Sn.D k]=some (.tup [GS.D Sn.D 2 ((zb r k).1),I ((zb r k).2)]):=by
 unfold zb
 cases h1:((zv r) != 0) with
 | true =>
  have g1:=bne_true h1
  exact zo [.pure (I (zv r)),.dec true] (Ai h1 (Ai (zw r (by omega)) trivial)) (by kernel_rfl)
 | false =>
  obtain ⟨g1,gb1⟩:=chk1 (bne_false h1)
  cases h2:(zV k 0) with
  | true =>
   have hk:=const_iff.1 h2
   cases h27:ranges_each_3p2 k r.l with
   | x0 yK =>
    try dsimp only
    have hv_h27:=ivt_ranges_each_3p2 r k r.l 0 (List.drop_zero) (Nat.zero_le _) (by omega) (by omega) (by omega) (by omega)
    rw [h27] at hv_h27
    have hv_h27_0:=hv_h27
    try dsimp only [iv_ranges_each_3p2] at hv_h27_0
    have p1:=(show (lim cfg).inl 70 [.sl r.nl (r.l.map Sn.D) (zsl r.nl 2) none,.fn (.func 71) [] [.lref 0 0 2 0]] [(0,⟨[.agg [I k.lo,I k.hi]],2,false⟩)] 1=some (.lsl 1 0 yK.length 2 none,[(0,⟨[.agg [I k.lo,I k.hi]],2,true⟩),(1,⟨yK.map Sn.D,2,false⟩)],2) from zH [.rw 9 (I ((r.l.length:Nat):Int)),.loop (.exit 0) (sd40104 0 1 2 yK r k)] (Ai (zF (q:=lr_ranges_each_3p2 r k) (lp_ranges_each_3p2 r k r.l 0 (List.drop_zero) (Nat.zero_le _) (by omega) (by omega) (by omega) (by omega)) h27) (Ai (zW Sn.D r) trivial)) (by kernel_rfl))
    cases h28:zA (zz zx yK) 0 with
    | x0 yH =>
     try dsimp only
     have xH:=zX yK (zz zx yK) (zz zx yK) 0 (List.drop_zero) (Nat.zero_le _) (by simp only [yw,GS.some_l,List.length_set,List.length_append,List.length_cons,List.length_nil] at * <;> first | with_reducible assumption | omega) (by simp only [yw,GS.some_l,List.length_set,List.length_append,List.length_cons,List.length_nil] at * <;> first | with_reducible assumption | omega)
     rw [h28] at xH
     obtain ⟨xF,hv_h28_1⟩:=xH
     try dsimp only [zu] at xF
     try dsimp only [zu] at hv_h28_1
     cases h29:decide (((yH.length:Nat):Int) > 64) with
     | true =>
      have g29:=of_decide_eq_true h29
      exact zo ((ranges_Times_o1 r k yK)++[.inlS [1] (.tup [.sl true [] 0 none,I 2]) [(1,⟨(zz zx yK).map Sn.D,2,false⟩),(2,⟨yH.map Sn.D,2,false⟩)] 3]) (Ai (Ai (show zj [(0,⟨[.agg [I k.lo,I k.hi]],2,true⟩),(1,⟨yK.map Sn.D,2,false⟩)] 256 [1] []=some [1] from (by (simp only [zj,go_sem,List.length_set,Nat.reduceAdd,Nat.reduceEqDiff,Nat.reduceLT,Nat.reduceLeDiff,bI2,zc.idsL,zc.renL,zc.snapAll,z7.idsL,z7.renL,z7.snapAll]) <;> rfl)) (show (lim cfg).inl 69 [.lsl 1 0 yK.length 2 none] [(1,⟨yK.map Sn.D,2,false⟩)] 2=some (.tup [.sl true [] 0 none,I 2],[(1,⟨(zz zx yK).map Sn.D,2,false⟩),(2,⟨yH.map Sn.D,2,false⟩)],3) from zH [.inlS [1] (.tup []) [(1,⟨(zz zx yK).map Sn.D,2,false⟩)] 2,.gloop (zB 1 2 yK) (.exit 0) (sd40116 2 1 3 yH yK),.dec true] (Ai h29 (Ai (zF (q:=zm yK (zz zx yK)) (lp_ranges_gathered_4p1 yK (zz zx yK) (zz zx yK) 0 (List.drop_zero) (Nat.zero_le _) (by simp only [yw,GS.some_l,List.length_set,List.length_append,List.length_cons,List.length_nil] at * <;> first | with_reducible assumption | omega) (by simp only [yw,GS.some_l,List.length_set,List.length_append,List.length_cons,List.length_nil] at * <;> first | with_reducible assumption | omega)) h28) (Ai (gc_of (C:=cfg) (f:=69) (a:=lp69_4) (ks:=[4,10,11,12]) (st:=(zT 1 2 yK)) (st1:=(zB 1 2 yK)) (by kernel_rfl) (by (simp only [zT,zB,go_sem,List.length_set,Nat.reduceAdd,Nat.reduceEqDiff,Nat.reduceLT,Nat.reduceLeDiff,bI2,zc.idsL,zc.renL,zc.snapAll,z7.idsL,z7.renL,z7.snapAll]) <;> rfl)) (Ai (Ai (show zj [(1,⟨yK.map Sn.D,2,false⟩)] 256 [1] []=some [1] from (by (simp only [zj,go_sem,List.length_set,Nat.reduceAdd,Nat.reduceEqDiff,Nat.reduceLT,Nat.reduceLeDiff,bI2,zc.idsL,zc.renL,zc.snapAll,z7.idsL,z7.renL,z7.snapAll]) <;> rfl)) (T_sort 1 2 none yK (by omega))) trivial)))) (by kernel_rfl))) (Ai p1 (Ai h2 (Ai (zn k 0) (Ai h1 (Ai (zw r (by omega)) trivial)))))) (by kernel_rfl)
     | false =>
      have g29:=of_decide_eq_false h29
      exact po_pureS ((ranges_Times_o1 r k yK)++[.inlS [1] (.tup [.lsl 2 0 yH.length 2 none,I 0]) [(1,⟨(zz zx yK).map Sn.D,2,false⟩),(2,⟨yH.map Sn.D,2,false⟩)] 3]) [(2,.sl false (yH.map Sn.D) 2 none,[2])] (Ai (snap_row (gO:=zt [(0,⟨[.agg [I k.lo,I k.hi]],2,true⟩),(1,⟨(zz zx yK).map Sn.D,2,false⟩),(2,⟨yH.map Sn.D,2,false⟩)]) (o:=2) (len:=yH.length) (cap:=none) (fz:=false) z7 yH (by kernel_rfl) (by omega)) (Ai (Ai (show zj [(0,⟨[.agg [I k.lo,I k.hi]],2,true⟩),(1,⟨yK.map Sn.D,2,false⟩)] 256 [1] []=some [1] from (by (simp only [zj,go_sem,List.length_set,Nat.reduceAdd,Nat.reduceEqDiff,Nat.reduceLT,Nat.reduceLeDiff,bI2,zc.idsL,zc.renL,zc.snapAll,z7.idsL,z7.renL,z7.snapAll]) <;> rfl)) (show (lim cfg).inl 69 [.lsl 1 0 yK.length 2 none] [(1,⟨yK.map Sn.D,2,false⟩)] 2=some (.tup [.lsl 2 0 yH.length 2 none,I 0],[(1,⟨(zz zx yK).map Sn.D,2,false⟩),(2,⟨yH.map Sn.D,2,false⟩)],3) from zH [.inlS [1] (.tup []) [(1,⟨(zz zx yK).map Sn.D,2,false⟩)] 2,.gloop (zB 1 2 yK) (.exit 0) (sd40116 2 1 3 yH yK),.dec false] (Ai h29 (Ai (zF (q:=zm yK (zz zx yK)) (lp_ranges_gathered_4p1 yK (zz zx yK) (zz zx yK) 0 (List.drop_zero) (Nat.zero_le _) (by simp only [yw,GS.some_l,List.length_set,List.length_append,List.length_cons,List.length_nil] at * <;> first | with_reducible assumption | omega) (by simp only [yw,GS.some_l,List.length_set,List.length_append,List.length_cons,List.length_nil] at * <;> first | with_reducible assumption | omega)) h28) (Ai (gc_of (C:=cfg) (f:=69) (a:=lp69_4) (ks:=[4,10,11,12]) (st:=(zT 1 2 yK)) (st1:=(zB 1 2 yK)) (by kernel_rfl) (by (simp only [zT,zB,go_sem,List.length_set,Nat.reduceAdd,Nat.reduceEqDiff,Nat.reduceLT,Nat.reduceLeDiff,bI2,zc.idsL,zc.renL,zc.snapAll,z7.idsL,z7.renL,z7.snapAll]) <;> rfl)) (Ai (Ai (show zj [(1,⟨yK.map Sn.D,2,false⟩)] 256 [1] []=some [1] from (by (simp only [zj,go_sem,List.length_set,Nat.reduceAdd,Nat.reduceEqDiff,Nat.reduceLT,Nat.reduceLeDiff,bI2,zc.idsL,zc.renL,zc.snapAll,z7.idsL,z7.renL,z7.snapAll]) <;> rfl)) (T_sort 1 2 none yK (by omega))) trivial)))) (by kernel_rfl))) (Ai p1 (Ai h2 (Ai (zn k 0) (Ai h1 (Ai (zw r (by omega)) trivial))))))) (by kernel_rfl)
    | x1 xu xc yH =>
     try dsimp only
     have xH:=zX yK (zz zx yK) (zz zx yK) 0 (List.drop_zero) (Nat.zero_le _) (by simp only [yw,GS.some_l,List.length_set,List.length_append,List.length_cons,List.length_nil] at * <;> first | with_reducible assumption | omega) (by simp only [yw,GS.some_l,List.length_set,List.length_append,List.length_cons,List.length_nil] at * <;> first | with_reducible assumption | omega)
     rw [h28] at xH
     obtain ⟨xF,hv_h28_1⟩:=xH
     try dsimp only [zu] at xF
     try dsimp only [zu] at hv_h28_1
     exact zo ((ranges_Times_o1 r k yK)++[.inlS [1] (.tup [.sl true [] 0 none,I 2]) [(1,⟨(zz zx yK).map Sn.D,2,false⟩),(2,⟨yH.map Sn.D,2,false⟩),(3,⟨[.agg [I xc.lo,I xc.hi]],2,false⟩)] 4]) (Ai (Ai (show zj [(0,⟨[.agg [I k.lo,I k.hi]],2,true⟩),(1,⟨yK.map Sn.D,2,false⟩)] 256 [1] []=some [1] from (by (simp only [zj,go_sem,List.length_set,Nat.reduceAdd,Nat.reduceEqDiff,Nat.reduceLT,Nat.reduceLeDiff,bI2,zc.idsL,zc.renL,zc.snapAll,z7.idsL,z7.renL,z7.snapAll]) <;> rfl)) (show (lim cfg).inl 69 [.lsl 1 0 yK.length 2 none] [(1,⟨yK.map Sn.D,2,false⟩)] 2=some (.tup [.sl true [] 0 none,I 2],[(1,⟨(zz zx yK).map Sn.D,2,false⟩),(2,⟨yH.map Sn.D,2,false⟩),(3,⟨[.agg [I xc.lo,I xc.hi]],2,false⟩)],4) from zH [.inlS [1] (.tup []) [(1,⟨(zz zx yK).map Sn.D,2,false⟩)] 2,.gloop (zB 1 2 yK) .ret (sd40117 3 1 2 4 xc xu yH yK)] (Ai (zF (q:=zm yK (zz zx yK)) (lp_ranges_gathered_4p1 yK (zz zx yK) (zz zx yK) 0 (List.drop_zero) (Nat.zero_le _) (by simp only [yw,GS.some_l,List.length_set,List.length_append,List.length_cons,List.length_nil] at * <;> first | with_reducible assumption | omega) (by simp only [yw,GS.some_l,List.length_set,List.length_append,List.length_cons,List.length_nil] at * <;> first | with_reducible assumption | omega)) h28) (Ai (gc_of (C:=cfg) (f:=69) (a:=lp69_4) (ks:=[4,10,11,12]) (st:=(zT 1 2 yK)) (st1:=(zB 1 2 yK)) (by kernel_rfl) (by (simp only [zT,zB,go_sem,List.length_set,Nat.reduceAdd,Nat.reduceEqDiff,Nat.reduceLT,Nat.reduceLeDiff,bI2,zc.idsL,zc.renL,zc.snapAll,z7.idsL,z7.renL,z7.snapAll]) <;> rfl)) (Ai (Ai (show zj [(1,⟨yK.map Sn.D,2,false⟩)] 256 [1] []=some [1] from (by (simp only [zj,go_sem,List.length_set,Nat.reduceAdd,Nat.reduceEqDiff,Nat.reduceLT,Nat.reduceLeDiff,bI2,zc.idsL,zc.renL,zc.snapAll,z7.idsL,z7.renL,z7.snapAll]) <;> rfl)) (T_sort 1 2 none yK (by omega))) trivial))) (by kernel_rfl))) (Ai p1 (Ai h2 (Ai (zn k 0) (Ai h1 (Ai (zw r (by omega)) trivial)))))) (by kernel_rfl)
    | x2 xu xc yH =>
     try dsimp only
     have xH:=zX yK (zz zx yK) (zz zx yK) 0 (List.drop_zero) (Nat.zero_le _) (by simp only [yw,GS.some_l,List.length_set,List.length_append,List.length_cons,List.length_nil] at * <;> first | with_reducible assumption | omega) (by simp only [yw,GS.some_l,List.length_set,List.length_append,List.length_cons,List.length_nil] at * <;> first | with_reducible assumption | omega)
     rw [h28] at xH
     obtain ⟨xF,hv_h28_1⟩:=xH
     try dsimp only [zu] at xF
     try dsimp only [zu] at hv_h28_1
     exact zo ((ranges_Times_o1 r k yK)++[.inlS [1] (.tup [.sl true [] 0 none,I 2]) [(1,⟨(zz zx yK).map Sn.D,2,false⟩),(2,⟨yH.map Sn.D,2,false⟩),(3,⟨[.agg [I xc.lo,I xc.hi]],2,false⟩)] 4]) (Ai (Ai (show zj [(0,⟨[.agg [I k.lo,I k.hi]],2,true⟩),(1,⟨yK.map Sn.D,2,false⟩)] 256 [1] []=some [1] from (by (simp only [zj,go_sem,List.length_set,Nat.reduceAdd,Nat.reduceEqDiff,Nat.reduceLT,Nat.reduceLeDiff,bI2,zc.idsL,zc.renL,zc.snapAll,z7.idsL,z7.renL,z7.snapAll]) <;> rfl)) (show (lim cfg).inl 69 [.lsl 1 0 yK.length 2 none] [(1,⟨yK.map Sn.D,2,false⟩)] 2=some (.tup [.sl true [] 0 none,I 2],[(1,⟨(zz zx yK).map Sn.D,2,false⟩),(2,⟨yH.map Sn.D,2,false⟩),(3,⟨[.agg [I xc.lo,I xc.hi]],2,false⟩)],4) from zH [.inlS [1] (.tup []) [(1,⟨(zz zx yK).map Sn.D,2,false⟩)] 2,.gloop (zB 1 2 yK) .ret (sd40118 3 1 2 4 xc xu yH yK)] (Ai (zF (q:=zm yK (zz zx yK)) (lp_ranges_gathered_4p1 yK (zz zx yK) (zz zx yK) 0 (List.drop_zero) (Nat.zero_le _) (by simp only [yw,GS.some_l,List.length_set,List.length_append,List.length_cons,List.length_nil] at * <;> first | with_reducible assumption | omega) (by simp only [yw,GS.some_l,List.length_set,List.length_append,List.length_cons,List.length_nil] at * <;> first | with_reducible assumption | omega)) h28) (Ai (gc_of (C:=cfg) (f:=69) (a:=lp69_4) (ks:=[4,10,11,12]) (st:=(zT 1 2 yK)) (st1:=(zB 1 2 yK)) (by kernel_rfl) (by (simp only [zT,zB,go_sem,List.length_set,Nat.reduceAdd,Nat.reduceEqDiff,Nat.reduceLT,Nat.reduceLeDiff,bI2,zc.idsL,zc.renL,zc.snapAll,z7.idsL,z7.renL,z7.snapAll]) <;> rfl)) (Ai (Ai (show zj [(1,⟨yK.map Sn.D,2,false⟩)] 256 [1] []=some [1] from (by (simp only [zj,go_sem,List.length_set,Nat.reduceAdd,Nat.reduceEqDiff,Nat.reduceLT,Nat.reduceLeDiff,bI2,zc.idsL,zc.renL,zc.snapAll,z7.idsL,z7.renL,z7.snapAll]) <;> rfl)) (T_sort 1 2 none yK (by omega))) trivial))) (by kernel_rfl))) (Ai p1 (Ai h2 (Ai (zn k 0) (Ai h1 (Ai (zw r (by omega)) trivial)))))) (by kernel_rfl)
    | x3 =>
     try dsimp only
     exact zo ((ranges_Times_o1 r k yK)++[.inlS [1] (.tup [.sl true [] 0 none,I 0]) [(1,⟨(zz zx yK).map Sn.D,2,false⟩)] 2]) (Ai (Ai (show zj [(0,⟨[.agg [I k.lo,I k.hi]],2,true⟩),(1,⟨yK.map Sn.D,2,false⟩)] 256 [1] []=some [1] from (by (simp only [zj,go_sem,List.length_set,Nat.reduceAdd,Nat.reduceEqDiff,Nat.reduceLT,Nat.reduceLeDiff,bI2,zc.idsL,zc.renL,zc.snapAll,z7.idsL,z7.renL,z7.snapAll]) <;> rfl)) (show (lim cfg).inl 69 [.lsl 1 0 yK.length 2 none] [(1,⟨yK.map Sn.D,2,false⟩)] 2=some (.tup [.sl true [] 0 none,I 0],[(1,⟨(zz zx yK).map Sn.D,2,false⟩)],2) from zH [.inlS [1] (.tup []) [(1,⟨(zz zx yK).map Sn.D,2,false⟩)] 2,.gloop (zB 1 2 yK) (.exit 0) (sd40119 1 2 yK),.dec false] (Ai (Eq.refl false) (Ai (zF (q:=zm yK (zz zx yK)) (lp_ranges_gathered_4p1 yK (zz zx yK) (zz zx yK) 0 (List.drop_zero) (Nat.zero_le _) (by simp only [yw,GS.some_l,List.length_set,List.length_append,List.length_cons,List.length_nil] at * <;> first | with_reducible assumption | omega) (by simp only [yw,GS.some_l,List.length_set,List.length_append,List.length_cons,List.length_nil] at * <;> first | with_reducible assumption | omega)) h28) (Ai (gc_of (C:=cfg) (f:=69) (a:=lp69_4) (ks:=[4,10,11,12]) (st:=(zT 1 2 yK)) (st1:=(zB 1 2 yK)) (by kernel_rfl) (by (simp only [zT,zB,go_sem,List.length_set,Nat.reduceAdd,Nat.reduceEqDiff,Nat.reduceLT,Nat.reduceLeDiff,bI2,zc.idsL,zc.renL,zc.snapAll,z7.idsL,z7.renL,z7.snapAll]) <;> rfl)) (Ai (Ai (show zj [(1,⟨yK.map Sn.D,2,false⟩)] 256 [1] []=some [1] from (by (simp only [zj,go_sem,List.length_set,Nat.reduceAdd,Nat.reduceEqDiff,Nat.reduceLT,Nat.reduceLeDiff,bI2,zc.idsL,zc.renL,zc.snapAll,z7.idsL,z7.renL,z7.snapAll]) <;> rfl)) (T_sort 1 2 none yK (by omega))) trivial)))) (by kernel_rfl))) (Ai p1 (Ai h2 (Ai (zn k 0) (Ai h1 (Ai (zw r (by omega)) trivial)))))) (by kernel_rfl)
    | x4 xu xc =>
     try dsimp only
     exact zo ((ranges_Times_o1 r k yK)++[.inlS [1] (.tup [.sl true [] 0 none,I 2]) [(1,⟨(zz zx yK).map Sn.D,2,false⟩),(2,⟨[.agg [I xc.lo,I xc.hi]],2,false⟩)] 3]) (Ai (Ai (show zj [(0,⟨[.agg [I k.lo,I k.hi]],2,true⟩),(1,⟨yK.map Sn.D,2,false⟩)] 256 [1] []=some [1] from (by (simp only [zj,go_sem,List.length_set,Nat.reduceAdd,Nat.reduceEqDiff,Nat.reduceLT,Nat.reduceLeDiff,bI2,zc.idsL,zc.renL,zc.snapAll,z7.idsL,z7.renL,z7.snapAll]) <;> rfl)) (show (lim cfg).inl 69 [.lsl 1 0 yK.length 2 none] [(1,⟨yK.map Sn.D,2,false⟩)] 2=some (.tup [.sl true [] 0 none,I 2],[(1,⟨(zz zx yK).map Sn.D,2,false⟩),(2,⟨[.agg [I xc.lo,I xc.hi]],2,false⟩)],3) from zH [.inlS [1] (.tup []) [(1,⟨(zz zx yK).map Sn.D,2,false⟩)] 2,.gloop (zB 1 2 yK) .ret (sd40120 2 1 3 xc xu yK)] (Ai (zF (q:=zm yK (zz zx yK)) (lp_ranges_gathered_4p1 yK (zz zx yK) (zz zx yK) 0 (List.drop_zero) (Nat.zero_le _) (by simp only [yw,GS.some_l,List.length_set,List.length_append,List.length_cons,List.length_nil] at * <;> first | with_reducible assumption | omega) (by simp only [yw,GS.some_l,List.length_set,List.length_append,List.length_cons,List.length_nil] at * <;> first | with_reducible assumption | omega)) h28) (Ai (gc_of (C:=cfg) (f:=69) (a:=lp69_4) (ks:=[4,10,11,12]) (st:=(zT 1 2 yK)) (st1:=(zB 1 2 yK)) (by kernel_rfl) (by (simp only [zT,zB,go_sem,List.length_set,Nat.reduceAdd,Nat.reduceEqDiff,Nat.reduceLT,Nat.reduceLeDiff,bI2,zc.idsL,zc.renL,zc.snapAll,z7.idsL,z7.renL,z7.snapAll]) <;> rfl)) (Ai (Ai (show zj [(1,⟨yK.map Sn.D,2,false⟩)] 256 [1] []=some [1] from (by (simp only [zj,go_sem,List.length_set,Nat.reduceAdd,Nat.reduceEqDiff,Nat.reduceLT,Nat.reduceLeDiff,bI2,zc.idsL,zc.renL,zc.snapAll,z7.idsL,z7.renL,z7.snapAll]) <;> rfl)) (T_sort 1 2 none yK (by omega))) trivial))) (by kernel_rfl))) (Ai p1 (Ai h2 (Ai (zn k 0) (Ai h1 (Ai (zw r (by omega)) trivial)))))) (by kernel_rfl)
    | x5 xu xc =>
     try dsimp only
     exact zo ((ranges_Times_o1 r k yK)++[.inlS [1] (.tup [.sl true [] 0 none,I 2]) [(1,⟨(zz zx yK).map Sn.D,2,false⟩),(2,⟨[.agg [I xc.lo,I xc.hi]],2,false⟩)] 3]) (Ai (Ai (show zj [(0,⟨[.agg [I k.lo,I k.hi]],2,true⟩),(1,⟨yK.map Sn.D,2,false⟩)] 256 [1] []=some [1] from (by (simp only [zj,go_sem,List.length_set,Nat.reduceAdd,Nat.reduceEqDiff,Nat.reduceLT,Nat.reduceLeDiff,bI2,zc.idsL,zc.renL,zc.snapAll,z7.idsL,z7.renL,z7.snapAll]) <;> rfl)) (show (lim cfg).inl 69 [.lsl 1 0 yK.length 2 none] [(1,⟨yK.map Sn.D,2,false⟩)] 2=some (.tup [.sl true [] 0 none,I 2],[(1,⟨(zz zx yK).map Sn.D,2,false⟩),(2,⟨[.agg [I xc.lo,I xc.hi]],2,false⟩)],3) from zH [.inlS [1] (.tup []) [(1,⟨(zz zx yK).map Sn.D,2,false⟩)] 2,.gloop (zB 1 2 yK) .ret (sd40121 2 1 3 xc xu yK)] (Ai (zF (q:=zm yK (zz zx yK)) (lp_ranges_gathered_4p1 yK (zz zx yK) (zz zx yK) 0 (List.drop_zero) (Nat.zero_le _) (by simp only [yw,GS.some_l,List.length_set,List.length_append,List.length_cons,List.length_nil] at * <;> first | with_reducible assumption | omega) (by simp only [yw,GS.some_l,List.length_set,List.length_append,List.length_cons,List.length_nil] at * <;> first | with_reducible assumption | omega)) h28) (Ai (gc_of (C:=cfg) (f:=69) (a:=lp69_4) (ks:=[4,10,11,12]) (st:=(zT 1 2 yK)) (st1:=(zB 1 2 yK)) (by kernel_rfl) (by (simp only [zT,zB,go_sem,List.length_set,Nat.reduceAdd,Nat.reduceEqDiff,Nat.reduceLT,Nat.reduceLeDiff,bI2,zc.idsL,zc.renL,zc.snapAll,z7.idsL,z7.renL,z7.snapAll]) <;> rfl)) (Ai (Ai (show zj [(1,⟨yK.map Sn.D,2,false⟩)] 256 [1] []=some [1] from (by (simp only [zj,go_sem,List.length_set,Nat.reduceAdd,Nat.reduceEqDiff,Nat.reduceLT,Nat.reduceLeDiff,bI2,zc.idsL,zc.renL,zc.snapAll,z7.idsL,z7.renL,z7.snapAll]) <;> rfl)) (T_sort 1 2 none yK (by omega))) trivial))) (by kernel_rfl))) (Ai p1 (Ai h2 (Ai (zn k 0) (Ai h1 (Ai (zw r (by omega)) trivial)))))) (by kernel_rfl)
   | x1 yG =>
    try dsimp only
    have hv_h27:=ivt_ranges_each_3p2 r k r.l 0 (List.drop_zero) (Nat.zero_le _) (by omega) (by omega) (by omega) (by omega)
    rw [h27] at hv_h27
    have hv_h27_0:=hv_h27
    try dsimp only [iv_ranges_each_3p2] at hv_h27_0
    have p2:=(show (lim cfg).inl 70 [.sl r.nl (r.l.map Sn.D) (zsl r.nl 2) none,.fn (.func 71) [] [.lref 0 0 2 0]] [(0,⟨[.agg [I k.lo,I k.hi]],2,false⟩)] 1=some (.lsl 1 0 yG.length 2 none,[(0,⟨[.agg [I k.lo,I k.hi]],2,false⟩),(1,⟨yG.map Sn.D,2,false⟩)],2) from zH [.rw 9 (I ((r.l.length:Nat):Int)),.loop (.exit 0) (sd40105 0 1 2 yG r k)] (Ai (zF (q:=lr_ranges_each_3p2 r k) (lp_ranges_each_3p2 r k r.l 0 (List.drop_zero) (Nat.zero_le _) (by omega) (by omega) (by omega) (by omega)) h27) (Ai (zW Sn.D r) trivial)) (by kernel_rfl))
    cases h30:zA (zz zx yG) 0 with
    | x0 yH =>
     try dsimp only
     have xZ:=zX yG (zz zx yG) (zz zx yG) 0 (List.drop_zero) (Nat.zero_le _) (by simp only [yw,GS.some_l,List.length_set,List.length_append,List.length_cons,List.length_nil] at * <;> first | with_reducible assumption | omega) (by simp only [yw,GS.some_l,List.length_set,List.length_append,List.length_cons,List.length_nil] at * <;> first | with_reducible assumption | omega)
     rw [h30] at xZ
     obtain ⟨xX,hv_h30_1⟩:=xZ
     try dsimp only [zu] at xX
     try dsimp only [zu] at hv_h30_1
     cases h31:decide (((yH.length:Nat):Int) > 64) with
     | true =>
      have g31:=of_decide_eq_true h31
      exact zo ((ranges_Times_o2 r k yG)++[.inlS [1] (.tup [.sl true [] 0 none,I 2]) [(1,⟨(zz zx yG).map Sn.D,2,false⟩),(2,⟨yH.map Sn.D,2,false⟩)] 3]) (Ai (Ai (show zj [(0,⟨[.agg [I k.lo,I k.hi]],2,false⟩),(1,⟨yG.map Sn.D,2,false⟩)] 256 [1] []=some [1] from (by (simp only [zj,go_sem,List.length_set,Nat.reduceAdd,Nat.reduceEqDiff,Nat.reduceLT,Nat.reduceLeDiff,bI2,zc.idsL,zc.renL,zc.snapAll,z7.idsL,z7.renL,z7.snapAll]) <;> rfl)) (show (lim cfg).inl 69 [.lsl 1 0 yG.length 2 none] [(1,⟨yG.map Sn.D,2,false⟩)] 2=some (.tup [.sl true [] 0 none,I 2],[(1,⟨(zz zx yG).map Sn.D,2,false⟩),(2,⟨yH.map Sn.D,2,false⟩)],3) from zH [.inlS [1] (.tup []) [(1,⟨(zz zx yG).map Sn.D,2,false⟩)] 2,.gloop (zB 1 2 yG) (.exit 0) (sd40116 2 1 3 yH yG),.dec true] (Ai h31 (Ai (zF (q:=zm yG (zz zx yG)) (lp_ranges_gathered_4p1 yG (zz zx yG) (zz zx yG) 0 (List.drop_zero) (Nat.zero_le _) (by simp only [yw,GS.some_l,List.length_set,List.length_append,List.length_cons,List.length_nil] at * <;> first | with_reducible assumption | omega) (by simp only [yw,GS.some_l,List.length_set,List.length_append,List.length_cons,List.length_nil] at * <;> first | with_reducible assumption | omega)) h30) (Ai (gc_of (C:=cfg) (f:=69) (a:=lp69_4) (ks:=[4,10,11,12]) (st:=(zT 1 2 yG)) (st1:=(zB 1 2 yG)) (by kernel_rfl) (by (simp only [zT,zB,go_sem,List.length_set,Nat.reduceAdd,Nat.reduceEqDiff,Nat.reduceLT,Nat.reduceLeDiff,bI2,zc.idsL,zc.renL,zc.snapAll,z7.idsL,z7.renL,z7.snapAll]) <;> rfl)) (Ai (Ai (show zj [(1,⟨yG.map Sn.D,2,false⟩)] 256 [1] []=some [1] from (by (simp only [zj,go_sem,List.length_set,Nat.reduceAdd,Nat.reduceEqDiff,Nat.reduceLT,Nat.reduceLeDiff,bI2,zc.idsL,zc.renL,zc.snapAll,z7.idsL,z7.renL,z7.snapAll]) <;> rfl)) (T_sort 1 2 none yG (by omega))) trivial)))) (by kernel_rfl))) (Ai p2 (Ai h2 (Ai (zn k 0) (Ai h1 (Ai (zw r (by omega)) trivial)))))) (by kernel_rfl)
     | false =>
      have g31:=of_decide_eq_false h31
      exact po_pureS ((ranges_Times_o2 r k yG)++[.inlS [1] (.tup [.lsl 2 0 yH.length 2 none,I 0]) [(1,⟨(zz zx yG).map Sn.D,2,false⟩),(2,⟨yH.map Sn.D,2,false⟩)] 3]) [(2,.sl false (yH.map Sn.D) 2 none,[2])] (Ai (snap_row (gO:=zt [(0,⟨[.agg [I k.lo,I k.hi]],2,false⟩),(1,⟨(zz zx yG).map Sn.D,2,false⟩),(2,⟨yH.map Sn.D,2,false⟩)]) (o:=2) (len:=yH.length) (cap:=none) (fz:=false) z7 yH (by kernel_rfl) (by omega)) (Ai (Ai (show zj [(0,⟨[.agg [I k.lo,I k.hi]],2,false⟩),(1,⟨yG.map Sn.D,2,false⟩)] 256 [1] []=some [1] from (by (simp only [zj,go_sem,List.length_set,Nat.reduceAdd,Nat.reduceEqDiff,Nat.reduceLT,Nat.reduceLeDiff,bI2,zc.idsL,zc.renL,zc.snapAll,z7.idsL,z7.renL,z7.snapAll]) <;> rfl)) (show (lim cfg).inl 69 [.lsl 1 0 yG.length 2 none] [(1,⟨yG.map Sn.D,2,false⟩)] 2=some (.tup [.lsl 2 0 yH.length 2 none,I 0],[(1,⟨(zz zx yG).map Sn.D,2,false⟩),(2,⟨yH.map Sn.D,2,false⟩)],3) from zH [.inlS [1] (.tup []) [(1,⟨(zz zx yG).map Sn.D,2,false⟩)] 2,.gloop (zB 1 2 yG) (.exit 0) (sd40116 2 1 3 yH yG),.dec false] (Ai h31 (Ai (zF (q:=zm yG (zz zx yG)) (lp_ranges_gathered_4p1 yG (zz zx yG) (zz zx yG) 0 (List.drop_zero) (Nat.zero_le _) (by simp only [yw,GS.some_l,List.length_set,List.length_append,List.length_cons,List.length_nil] at * <;> first | with_reducible assumption | omega) (by simp only [yw,GS.some_l,List.length_set,List.length_append,List.length_cons,List.length_nil] at * <;> first | with_reducible assumption | omega)) h30) (Ai (gc_of (C:=cfg) (f:=69) (a:=lp69_4) (ks:=[4,10,11,12]) (st:=(zT 1 2 yG)) (st1:=(zB 1 2 yG)) (by kernel_rfl) (by (simp only [zT,zB,go_sem,List.length_set,Nat.reduceAdd,Nat.reduceEqDiff,Nat.reduceLT,Nat.reduceLeDiff,bI2,zc.idsL,zc.renL,zc.snapAll,z7.idsL,z7.renL,z7.snapAll]) <;> rfl)) (Ai (Ai (show zj [(1,⟨yG.map Sn.D,2,false⟩)] 256 [1] []=some [1] from (by (simp only [zj,go_sem,List.length_set,Nat.reduceAdd,Nat.reduceEqDiff,Nat.reduceLT,Nat.reduceLeDiff,bI2,zc.idsL,zc.renL,zc.snapAll,z7.idsL,z7.renL,z7.snapAll]) <;> rfl)) (T_sort 1 2 none yG (by omega))) trivial)))) (by kernel_rfl))) (Ai p2 (Ai h2 (Ai (zn k 0) (Ai h1 (Ai (zw r (by omega)) trivial))))))) (by kernel_rfl)
    | x1 xu xc yH =>
     try dsimp only
     have xZ:=zX yG (zz zx yG) (zz zx yG) 0 (List.drop_zero) (Nat.zero_le _) (by simp only [yw,GS.some_l,List.length_set,List.length_append,List.length_cons,List.length_nil] at * <;> first | with_reducible assumption | omega) (by simp only [yw,GS.some_l,List.length_set,List.length_append,List.length_cons,List.length_nil] at * <;> first | with_reducible assumption | omega)
     rw [h30] at xZ
     obtain ⟨xX,hv_h30_1⟩:=xZ
     try dsimp only [zu] at xX
     try dsimp only [zu] at hv_h30_1
     exact zo ((ranges_Times_o2 r k yG)++[.inlS [1] (.tup [.sl true [] 0 none,I 2]) [(1,⟨(zz zx yG).map Sn.D,2,false⟩),(2,⟨yH.map Sn.D,2,false⟩),(3,⟨[.agg [I xc.lo,I xc.hi]],2,false⟩)] 4]) (Ai (Ai (show zj [(0,⟨[.agg [I k.lo,I k.hi]],2,false⟩),(1,⟨yG.map Sn.D,2,false⟩)] 256 [1] []=some [1] from (by (simp only [zj,go_sem,List.length_set,Nat.reduceAdd,Nat.reduceEqDiff,Nat.reduceLT,Nat.reduceLeDiff,bI2,zc.idsL,zc.renL,zc.snapAll,z7.idsL,z7.renL,z7.snapAll]) <;> rfl)) (show (lim cfg).inl 69 [.lsl 1 0 yG.length 2 none] [(1,⟨yG.map Sn.D,2,false⟩)] 2=some (.tup [.sl true [] 0 none,I 2],[(1,⟨(zz zx yG).map Sn.D,2,false⟩),(2,⟨yH.map Sn.D,2,false⟩),(3,⟨[.agg [I xc.lo,I xc.hi]],2,false⟩)],4) from zH [.inlS [1] (.tup []) [(1,⟨(zz zx yG).map Sn.D,2,false⟩)] 2,.gloop (zB 1 2 yG) .ret (sd40117 3 1 2 4 xc xu yH yG)] (Ai (zF (q:=zm yG (zz zx yG)) (lp_ranges_gathered_4p1 yG (zz zx yG) (zz zx yG) 0 (List.drop_zero) (Nat.zero_le _) (by simp only [yw,GS.some_l,List.length_set,List.length_append,List.length_cons,List.length_nil] at * <;> first | with_reducible assumption | omega) (by simp only [yw,GS.some_l,List.length_set,List.length_append,List.length_cons,List.length_nil] at * <;> first | with_reducible assumption | omega)) h30) (Ai (gc_of (C:=cfg) (f:=69) (a:=lp69_4) (ks:=[4,10,11,12]) (st:=(zT 1 2 yG)) (st1:=(zB 1 2 yG)) (by kernel_rfl) (by (simp only [zT,zB,go_sem,List.length_set,Nat.reduceAdd,Nat.reduceEqDiff,Nat.reduceLT,Nat.reduceLeDiff,bI2,zc.idsL,zc.renL,zc.snapAll,z7.idsL,z7.renL,z7.snapAll]) <;> rfl)) (Ai (Ai (show zj [(1,⟨yG.map Sn.D,2,false⟩)] 256 [1] []=some [1] from (by (simp only [zj,go_sem,List.length_set,Nat.reduceAdd,Nat.reduceEqDiff,Nat.reduceLT,Nat.reduceLeDiff,bI2,zc.idsL,zc.renL,zc.snapAll,z7.idsL,z7.renL,z7.snapAll]) <;> rfl)) (T_sort 1 2 none yG (by omega))) trivial))) (by kernel_rfl))) (Ai p2 (Ai h2 (Ai (zn k 0) (Ai h1 (Ai (zw r (by omega)) trivial)))))) (by kernel_rfl)
    | x2 xu xc yH =>
     try dsimp only
     have xZ:=zX yG (zz zx yG) (zz zx yG) 0 (List.drop_zero) (Nat.zero_le _) (by simp only [yw,GS.some_l,List.length_set,List.length_append,List.length_cons,List.length_nil] at * <;> first | with_reducible assumption | omega) (by simp only [yw,GS.some_l,List.length_set,List.length_append,List.length_cons,List.length_nil] at * <;> first | with_reducible assumption | omega)
     rw [h30] at xZ
     obtain ⟨xX,hv_h30_1⟩:=xZ
     try dsimp only [zu] at xX
     try dsimp only [zu] at hv_h30_1
     exact zo ((ranges_Times_o2 r k yG)++[.inlS [1] (.tup [.sl true [] 0 none,I 2]) [(1,⟨(zz zx yG).map Sn.D,2,false⟩),(2,⟨yH.map Sn.D,2,false⟩),(3,⟨[.agg [I xc.lo,I xc.hi]],2,false⟩)] 4]) (Ai (Ai (show zj [(0,⟨[.agg [I k.lo,I k.hi]],2,false⟩),(1,⟨yG.map Sn.D,2,false⟩)] 256 [1] []=some [1] from (by (simp only [zj,go_sem,List.length_set,Nat.reduceAdd,Nat.reduceEqDiff,Nat.reduceLT,Nat.reduceLeDiff,bI2,zc.idsL,zc.renL,zc.snapAll,z7.idsL,z7.renL,z7.snapAll]) <;> rfl)) (show (lim cfg).inl 69 [.lsl 1 0 yG.length 2 none] [(1,⟨yG.map Sn.D,2,false⟩)] 2=some (.tup [.sl true [] 0 none,I 2],[(1,⟨(zz zx yG).map Sn.D,2,false⟩),(2,⟨yH.map Sn.D,2,false⟩),(3,⟨[.agg [I xc.lo,I xc.hi]],2,false⟩)],4) from zH [.inlS [1] (.tup []) [(1,⟨(zz zx yG).map Sn.D,2,false⟩)] 2,.gloop (zB 1 2 yG) .ret (sd40118 3 1 2 4 xc xu yH yG)] (Ai (zF (q:=zm yG (zz zx yG)) (lp_ranges_gathered_4p1 yG (zz zx yG) (zz zx yG) 0 (List.drop_zero) (Nat.zero_le _) (by simp only [yw,GS.some_l,List.length_set,List.length_append,List.length_cons,List.length_nil] at * <;> first | with_reducible assumption | omega) (by simp only [yw,GS.some_l,List.length_set,List.length_append,List.length_cons,List.length_nil] at * <;> first | with_reducible assumption | omega)) h30) (Ai (gc_of (C:=cfg) (f:=69) (a:=lp69_4) (ks:=[4,10,11,12]) (st:=(zT 1 2 yG)) (st1:=(zB 1 2 yG)) (by kernel_rfl) (by (simp only [zT,zB,go_sem,List.length_set,Nat.reduceAdd,Nat.reduceEqDiff,Nat.reduceLT,Nat.reduceLeDiff,bI2,zc.idsL,zc.renL,zc.snapAll,z7.idsL,z7.renL,z7.snapAll]) <;> rfl)) (Ai (Ai (show zj [(1,⟨yG.map Sn.D,2,false⟩)] 256 [1] []=some [1] from (by (simp only [zj,go_sem,List.length_set,Nat.reduceAdd,Nat.reduceEqDiff,Nat.reduceLT,Nat.reduceLeDiff,bI2,zc.idsL,zc.renL,zc.snapAll,z7.idsL,z7.renL,z7.snapAll]) <;> rfl)) (T_sort 1 2 none yG (by omega))) trivial))) (by kernel_rfl))) (Ai p2 (Ai h2 (Ai (zn k 0) (Ai h1 (Ai (zw r (by omega)) trivial)))))) (by kernel_rfl)
    | x3 =>
     try dsimp only
     exact zo ((ranges_Times_o2 r k yG)++[.inlS [1] (.tup [.sl true [] 0 none,I 0]) [(1,⟨(zz zx yG).map Sn.D,2,false⟩)] 2]) (Ai (Ai (show zj [(0,⟨[.agg [I k.lo,I k.hi]],2,false⟩),(1,⟨yG.map Sn.D,2,false⟩)] 256 [1] []=some [1] from (by (simp only [zj,go_sem,List.length_set,Nat.reduceAdd,Nat.reduceEqDiff,Nat.reduceLT,Nat.reduceLeDiff,bI2,zc.idsL,zc.renL,zc.snapAll,z7.idsL,z7.renL,z7.snapAll]) <;> rfl)) (show (lim cfg).inl 69 [.lsl 1 0 yG.length 2 none] [(1,⟨yG.map Sn.D,2,false⟩)] 2=some (.tup [.sl true [] 0 none,I 0],[(1,⟨(zz zx yG).map Sn.D,2,false⟩)],2) from zH [.inlS [1] (.tup []) [(1,⟨(zz zx yG).map Sn.D,2,false⟩)] 2,.gloop (zB 1 2 yG) (.exit 0) (sd40119 1 2 yG),.dec false] (Ai (Eq.refl false) (Ai (zF (q:=zm yG (zz zx yG)) (lp_ranges_gathered_4p1 yG (zz zx yG) (zz zx yG) 0 (List.drop_zero) (Nat.zero_le _) (by simp only [yw,GS.some_l,List.length_set,List.length_append,List.length_cons,List.length_nil] at * <;> first | with_reducible assumption | omega) (by simp only [yw,GS.some_l,List.length_set,List.length_append,List.length_cons,List.length_nil] at * <;> first | with_reducible assumption | omega)) h30) (Ai (gc_of (C:=cfg) (f:=69) (a:=lp69_4) (ks:=[4,10,11,12]) (st:=(zT 1 2 yG)) (st1:=(zB 1 2 yG)) (by kernel_rfl) (by (simp only [zT,zB,go_sem,List.length_set,Nat.reduceAdd,Nat.reduceEqDiff,Nat.reduceLT,Nat.reduceLeDiff,bI2,zc.idsL,zc.renL,zc.snapAll,z7.idsL,z7.renL,z7.snapAll]) <;> rfl)) (Ai (Ai (show zj [(1,⟨yG.map Sn.D,2,false⟩)] 256 [1] []=some [1] from (by (simp only [zj,go_sem,List.length_set,Nat.reduceAdd,Nat.reduceEqDiff,Nat.reduceLT,Nat.reduceLeDiff,bI2,zc.idsL,zc.renL,zc.snapAll,z7.idsL,z7.renL,z7.snapAll]) <;> rfl)) (T_sort 1 2 none yG (by omega))) trivial)))) (by kernel_rfl))) (Ai p2 (Ai h2 (Ai (zn k 0) (Ai h1 (Ai (zw r (by omega)) trivial)))))) (by kernel_rfl)
    | x4 xu xc =>
     try dsimp only
     exact zo ((ranges_Times_o2 r k yG)++[.inlS [1] (.tup [.sl true [] 0 none,I 2]) [(1,⟨(zz zx yG).map Sn.D,2,false⟩),(2,⟨[.agg [I xc.lo,I xc.hi]],2,false⟩)] 3]) (Ai (Ai (show zj [(0,⟨[.agg [I k.lo,I k.hi]],2,false⟩),(1,⟨yG.map Sn.D,2,false⟩)] 256 [1] []=some [1] from (by (simp only [zj,go_sem,List.length_set,Nat.reduceAdd,Nat.reduceEqDiff,Nat.reduceLT,Nat.reduceLeDiff,bI2,zc.idsL,zc.renL,zc.snapAll,z7.idsL,z7.renL,z7.snapAll]) <;> rfl)) (show (lim cfg).inl 69 [.lsl 1 0 yG.length 2 none] [(1,⟨yG.map Sn.D,2,false⟩)] 2=some (.tup [.sl true [] 0 none,I 2],[(1,⟨(zz zx yG).map Sn.D,2,false⟩),(2,⟨[.agg [I xc.lo,I xc.hi]],2,false⟩)],3) from zH [.inlS [1] (.tup []) [(1,⟨(zz zx yG).map Sn.D,2,false⟩)] 2,.gloop (zB 1 2 yG) .ret (sd40120 2 1 3 xc xu yG)] (Ai (zF (q:=zm yG (zz zx yG)) (lp_ranges_gathered_4p1 yG (zz zx yG) (zz zx yG) 0 (List.drop_zero) (Nat.zero_le _) (by simp only [yw,GS.some_l,List.length_set,List.length_append,List.length_cons,List.length_nil] at * <;> first | with_reducible assumption | omega) (by simp only [yw,GS.some_l,List.length_set,List.length_append,List.length_cons,List.length_nil] at * <;> first | with_reducible assumption | omega)) h30) (Ai (gc_of (C:=cfg) (f:=69) (a:=lp69_4) (ks:=[4,10,11,12]) (st:=(zT 1 2 yG)) (st1:=(zB 1 2 yG)) (by kernel_rfl) (by (simp only [zT,zB,go_sem,List.length_set,Nat.reduceAdd,Nat.reduceEqDiff,Nat.reduceLT,Nat.reduceLeDiff,bI2,zc.idsL,zc.renL,zc.snapAll,z7.idsL,z7.renL,z7.snapAll]) <;> rfl)) (Ai (Ai (show zj [(1,⟨yG.map Sn.D,2,false⟩)] 256 [1] []=some [1] from (by (simp only [zj,go_sem,List.length_set,Nat.reduceAdd,Nat.reduceEqDiff,Nat.reduceLT,Nat.reduceLeDiff,bI2,zc.idsL,zc.renL,zc.snapAll,z7.idsL,z7.renL,z7.snapAll]) <;> rfl)) (T_sort 1 2 none yG (by omega))) trivial))) (by kernel_rfl))) (Ai p2 (Ai h2 (Ai (zn k 0) (Ai h1 (Ai (zw r (by omega)) trivial)))))) (by kernel_rfl)
    | x5 xu xc =>
     try dsimp only
     exact zo ((ranges_Times_o2 r k yG)++[.inlS [1] (.tup [.sl true [] 0 none,I 2]) [(1,⟨(zz zx yG).map Sn.D,2,false⟩),(2,⟨[.agg [I xc.lo,I xc.hi]],2,false⟩)] 3]) (Ai (Ai (show zj [(0,⟨[.agg [I k.lo,I k.hi]],2,false⟩),(1,⟨yG.map Sn.D,2,false⟩)] 256 [1] []=some [1] from (by (simp only [zj,go_sem,List.length_set,Nat.reduceAdd,Nat.reduceEqDiff,Nat.reduceLT,Nat.reduceLeDiff,bI2,zc.idsL,zc.renL,zc.snapAll,z7.idsL,z7.renL,z7.snapAll]) <;> rfl)) (show (lim cfg).inl 69 [.lsl 1 0 yG.length 2 none] [(1,⟨yG.map Sn.D,2,false⟩)] 2=some (.tup [.sl true [] 0 none,I 2],[(1,⟨(zz zx yG).map Sn.D,2,false⟩),(2,⟨[.agg [I xc.lo,I xc.hi]],2,false⟩)],3) from zH [.inlS [1] (.tup []) [(1,⟨(zz zx yG).map Sn.D,2,false⟩)] 2,.gloop (zB 1 2 yG) .ret (sd40121 2 1 3 xc xu yG)] (Ai (zF (q:=zm yG (zz zx yG)) (lp_ranges_gathered_4p1 yG (zz zx yG) (zz zx yG) 0 (List.drop_zero) (Nat.zero_le _) (by simp only [yw,GS.some_l,List.length_set,List.length_append,List.length_cons,List.length_nil] at * <;> first | with_reducible assumption | omega) (by simp only [yw,GS.some_l,List.length_set,List.length_append,List.length_cons,List.length_nil] at * <;> first | with_reducible assumption | omega)) h30) (Ai (gc_of (C:=cfg) (f:=69) (a:=lp69_4) (ks:=[4,10,11,12]) (st:=(zT 1 2 yG)) (st1:=(zB 1 2 yG)) (by kernel_rfl) (by (simp only [zT,zB,go_sem,List.length_set,Nat.reduceAdd,Nat.reduceEqDiff,Nat.reduceLT,Nat.reduceLeDiff,bI2,zc.idsL,zc.renL,zc.snapAll,z7.idsL,z7.renL,z7.snapAll]) <;> rfl)) (Ai (Ai (show zj [(1,⟨yG.map Sn.D,2,false⟩)] 256 [1] []=some [1] from (by (simp only [zj,go_sem,List.length_set,Nat.reduceAdd,Nat.reduceEqDiff,Nat.reduceLT,Nat.reduceLeDiff,bI2,zc.idsL,zc.renL,zc.snapAll,z7.idsL,z7.renL,z7.snapAll]) <;> rfl)) (T_sort 1 2 none yG (by omega))) trivial))) (by kernel_rfl))) (Ai p2 (Ai h2 (Ai (zn k 0) (Ai h1 (Ai (zw r (by omega)) trivial)))))) (by kernel_rfl)
   | x2 =>
    try dsimp only
    exact zo [.pure (I (zv r)),.dec false,.pure (B (zV k 0)),.dec true,.inl (.sl true [] 0 none) [(0,⟨[.agg [I k.lo,I k.hi]],2,true⟩)] 1,.inl (.tup [.sl true [] 0 none,I 0]) [] 1] (Ai (show (lim cfg).inl 69 [.sl true [] 0 none] [] 1=some (.tup [.sl true [] 0 none,I 0],[],1) from zH [.inl (.tup []) [] 1,.loop (.exit 0) ⟨65,[(13,B false),(4,.sl true [] 0 none),(10,.sl true [] 0 none),(11,I 0),(12,I 0)],[],1,1⟩,.dec false] (Ai (Eq.refl false) (Ai (show (lim cfg).loop 69 lp69_4 ⟨65,[(4,.sl true [] 0 none),(10,.sl true [] 0 none),(11,I 0),(12,I 0)],[],1,1⟩=some ((.exit 0),⟨65,[(13,B false),(4,.sl true [] 0 none),(10,.sl true [] 0 none),(11,I 0),(12,I 0)],[],1,1⟩) from (zy [.dec false] (Ai (Eq.refl false) trivial) (by kernel_rfl))) (Ai (T_sort_nil 1) trivial))) (by kernel_rfl)) (Ai (show (lim cfg).inl 70 [.sl r.nl (r.l.map Sn.D) (zsl r.nl 2) none,.fn (.func 71) [] [.lref 0 0 2 0]] [(0,⟨[.agg [I k.lo,I k.hi]],2,false⟩)] 1=some (.sl true [] 0 none,[(0,⟨[.agg [I k.lo,I k.hi]],2,true⟩)],1) from zH [.rw 9 (I ((r.l.length:Nat):Int)),.loop (.exit 0) (sd40106 0 1 r k)] (Ai (zF (q:=lr_ranges_each_3p2 r k) (lp_ranges_each_3p2 r k r.l 0 (List.drop_zero) (Nat.zero_le _) (by omega) (by omega) (by omega) (by omega)) h27) (Ai (zW Sn.D r) trivial)) (by kernel_rfl)) (Ai h2 (Ai (zn k 0) (Ai h1 (Ai (zw r (by omega)) trivial)))))) (by kernel_rfl)
   | x3 =>
    try dsimp only
    exact zo [.pure (I (zv r)),.dec false,.pure (B (zV k 0)),.dec true,.inl (.sl true [] 0 none) [(0,⟨[.agg [I k.lo,I k.hi]],2,false⟩)] 1,.inl (.tup [.sl true [] 0 none,I 0]) [] 1] (Ai (show (lim cfg).inl 69 [.sl true [] 0 none] [] 1=some (.tup [.sl true [] 0 none,I 0],[],1) from zH [.inl (.tup []) [] 1,.loop (.exit 0) ⟨65,[(13,B false),(4,.sl true [] 0 none),(10,.sl true [] 0 none),(11,I 0),(12,I 0)],[],1,1⟩,.dec false] (Ai (Eq.refl false) (Ai (show (lim cfg).loop 69 lp69_4 ⟨65,[(4,.sl true [] 0 none),(10,.sl true [] 0 none),(11,I 0),(12,I 0)],[],1,1⟩=some ((.exit 0),⟨65,[(13,B false),(4,.sl true [] 0 none),(10,.sl true [] 0 none),(11,I 0),(12,I 0)],[],1,1⟩) from (zy [.dec false] (Ai (Eq.refl false) trivial) (by kernel_rfl))) (Ai (T_sort_nil 1) trivial))) (by kernel_rfl)) (Ai (show (lim cfg).inl 70 [.sl r.nl (r.l.map Sn.D) (zsl r.nl 2) none,.fn (.func 71) [] [.lref 0 0 2 0]] [(0,⟨[.agg [I k.lo,I k.hi]],2,false⟩)] 1=some (.sl true [] 0 none,[(0,⟨[.agg [I k.lo,I k.hi]],2,false⟩)],1) from zH [.rw 9 (I ((r.l.length:Nat):Int)),.loop (.exit 0) (sd40107 0 1 r k)] (Ai (zF (q:=lr_ranges_each_3p2 r k) (lp_ranges_each_3p2 r k r.l 0 (List.drop_zero) (Nat.zero_le _) (by omega) (by omega) (by omega) (by omega)) h27) (Ai (zW Sn.D r) trivial)) (by kernel_rfl)) (Ai h2 (Ai (zn k 0) (Ai h1 (Ai (zw r (by omega)) trivial)))))) (by kernel_rfl)
  | false =>
   exact zo [.pure (I (zv r)),.dec false,.pure (B (zV k 0)),.dec false] (Ai h2 (Ai (zn k 0) (Ai h1 (Ai (zw r (by omega)) trivial)))) (by kernel_rfl)
end Go.VS

namespace Go.VS
open Go Go.Proofs
set_option maxHeartbeats 0
set_option linter.unusedSimpArgs false
set_option linter.unusedVariables false
def sd40087 (ν0 ν1 ν2:Nat) (μ0:Sn) (μ1:Int) (μ2:List Sn) (μ3:Sn):St:=⟨28,[(11,B false),(10,I μ0.hi),(9,.ptr (I μ0.hi)),(8,I μ1),(1,.ptr (.agg [I μ0.lo,I μ0.hi])),(2,.lref ν0 0 2 0),(4,.lsl ν1 0 μ2.length 2 none),(5,I μ1)],[(ν0,⟨[.agg [I μ3.lo,I μ3.hi]],2,false⟩),(ν1,⟨μ2.map Sn.D,2,false⟩)],ν2,ν0⟩

def sd40088 (ν0 ν1:Nat) (μ0:Sn) (μ1:Int) (μ2:Sn):St:=⟨28,[(11,B false),(10,I μ0.hi),(9,.ptr (I μ0.hi)),(8,I μ1),(1,.ptr (.agg [I μ0.lo,I μ0.hi])),(2,.lref ν0 0 2 0),(4,.sl true [] 0 none),(5,I μ1)],[(ν0,⟨[.agg [I μ2.lo,I μ2.hi]],2,false⟩)],ν1,ν0⟩

noncomputable def lp76_3:Code:=subC [1,1,0,1,0,0] (bodyC Tryz.f76)

def sd40089 (ν0 ν1 ν2:Nat) (μ0:Int) (μ1:List Sn) (μ2:Sn) (μ3:Sn):St:=⟨28,[(5,I (w64 (μ0+1))),(13,I (w64 (μ0+1))),(12,I μ0),(4,.lsl ν0 0 μ1.length 2 none),(26,.lsl ν0 0 μ1.length 2 none),(25,.sl ((zd (w64 (0 - (zf (w64 (0 - μ2.lo)) μ0))) (zf μ2.hi μ0)).nl) (((zd (w64 (0 - (zf (w64 (0 - μ2.lo)) μ0))) (zf μ2.hi μ0)).l).map Sn.D) (zsl ((zd (w64 (0 - (zf (w64 (0 - μ2.lo)) μ0))) (zf μ2.hi μ0)).nl) 2) none),(24,I (zf μ2.hi μ0)),(23,I μ0),(22,I μ2.hi),(21,.lref ν1 0 2 1),(20,I (w64 (0 - (zf (w64 (0 - μ2.lo)) μ0)))),(19,I (zf (w64 (0 - μ2.lo)) μ0)),(18,I μ0),(17,I (w64 (0 - μ2.lo))),(16,I μ2.lo),(15,.lref ν1 0 2 0),(14,.lsl ν0 0 μ1.length 2 none),(11,B true),(10,I μ3.hi),(9,.ptr (I μ3.hi)),(8,I μ0),(1,.ptr (.agg [I μ3.lo,I μ3.hi])),(2,.lref ν1 0 2 0),(4,.lsl ν0 0 μ1.length 2 none),(5,I μ0)],[(ν1,⟨[.agg [I μ2.lo,I μ2.hi]],2,false⟩),(ν0,⟨μ1.map Sn.D,2,false⟩)],ν2,ν1⟩

def sd40090 (ν0 ν1 ν2 ν3:Nat) (μ0:Int) (μ1:List Sn) (μ2:Sn) (μ3:Sn):St:=⟨28,[(5,I (w64 (μ0+1))),(13,I (w64 (μ0+1))),(12,I μ0),(4,.lsl ν0 0 ((μ1++((zd (w64 (0 - (zf (w64 (0 - μ2.lo)) μ0))) (zf μ2.hi μ0)).l)).length) 2 none),(26,.lsl ν0 0 ((μ1++((zd (w64 (0 - (zf (w64 (0 - μ2.lo)) μ0))) (zf μ2.hi μ0)).l)).length) 2 none),(25,.sl ((zd (w64 (0 - (zf (w64 (0 - μ2.lo)) μ0))) (zf μ2.hi μ0)).nl) (((zd (w64 (0 - (zf (w64 (0 - μ2.lo)) μ0))) (zf μ2.hi μ0)).l).map Sn.D) (zsl ((zd (w64 (0 - (zf (w64 (0 - μ2.lo)) μ0))) (zf μ2.hi μ0)).nl) 2) none),(24,I (zf μ2.hi μ0)),(23,I μ0),(22,I μ2.hi),(21,.lref ν1 0 2 1),(20,I (w64 (0 - (zf (w64 (0 - μ2.lo)) μ0)))),(19,I (zf (w64 (0 - μ2.lo)) μ0)),(18,I μ0),(17,I (w64 (0 - μ2.lo))),(16,I μ2.lo),(15,.lref ν1 0 2 0),(14,.lsl ν2 0 μ1.length 2 none),(11,B true),(10,I μ3.hi),(9,.ptr (I μ3.hi)),(8,I μ0),(1,.ptr (.agg [I μ3.lo,I μ3.hi])),(2,.lref ν1 0 2 0),(4,.lsl ν2 0 μ1.length 2 none),(5,I μ0)],[(ν1,⟨[.agg [I μ2.lo,I μ2.hi]],2,false⟩),(ν0,⟨(μ1++((zd (w64 (0 - (zf (w64 (0 - μ2.lo)) μ0))) (zf μ2.hi μ0)).l)).map Sn.D,2,false⟩)],ν3,ν1⟩

def sd40091 (ν0 ν1 ν2:Nat) (μ0:Int) (μ1:Sn) (μ2:Sn):St:=⟨28,[(5,I (w64 (μ0+1))),(13,I (w64 (μ0+1))),(12,I μ0),(4,.lsl ν0 0 (((zd (w64 (0 - (zf (w64 (0 - μ1.lo)) μ0))) (zf μ1.hi μ0)).l).length) 2 none),(26,.lsl ν0 0 (((zd (w64 (0 - (zf (w64 (0 - μ1.lo)) μ0))) (zf μ1.hi μ0)).l).length) 2 none),(25,.sl ((zd (w64 (0 - (zf (w64 (0 - μ1.lo)) μ0))) (zf μ1.hi μ0)).nl) (((zd (w64 (0 - (zf (w64 (0 - μ1.lo)) μ0))) (zf μ1.hi μ0)).l).map Sn.D) (zsl ((zd (w64 (0 - (zf (w64 (0 - μ1.lo)) μ0))) (zf μ1.hi μ0)).nl) 2) none),(24,I (zf μ1.hi μ0)),(23,I μ0),(22,I μ1.hi),(21,.lref ν1 0 2 1),(20,I (w64 (0 - (zf (w64 (0 - μ1.lo)) μ0)))),(19,I (zf (w64 (0 - μ1.lo)) μ0)),(18,I μ0),(17,I (w64 (0 - μ1.lo))),(16,I μ1.lo),(15,.lref ν1 0 2 0),(14,.sl true [] 0 none),(11,B true),(10,I μ2.hi),(9,.ptr (I μ2.hi)),(8,I μ0),(1,.ptr (.agg [I μ2.lo,I μ2.hi])),(2,.lref ν1 0 2 0),(4,.sl true [] 0 none),(5,I μ0)],[(ν1,⟨[.agg [I μ1.lo,I μ1.hi]],2,false⟩),(ν0,⟨((zd (w64 (0 - (zf (w64 (0 - μ1.lo)) μ0))) (zf μ1.hi μ0)).l).map Sn.D,2,false⟩)],ν2,ν1⟩

inductive LR_ranges_Over_1_3 where
 | x0 (yP:List Sn) (yS:Int)
 | x1 (xp:Int)
 | out
instance:Inhabited LR_ranges_Over_1_3:=⟨.out⟩
def yB (x:Sn) (k:Sn):Nat→(List Sn)→Int→LR_ranges_Over_1_3
 | 0,_,_=>.out
 | xA+1,yP,yS =>
  bif decide (yS≤k.hi) then
   bif ((zd (w64 (0 - (zf (w64 (0 - x.lo)) yS))) (zf x.hi yS)).l).isEmpty then
    yB x k xA yP (w64 (yS+1))
   else
    yB x k xA (yP++((zd (w64 (0 - (zf (w64 (0 - x.lo)) yS))) (zf x.hi yS)).l)) (w64 (yS+1))
  else
   .x0 yP yS
def yE (x:Sn) (k:Sn):Nat→Int→LR_ranges_Over_1_3
 | 0,_=>.out
 | xA+1,xp =>
  bif decide (xp≤k.hi) then
   bif ((zd (w64 (0 - (zf (w64 (0 - x.lo)) xp))) (zf x.hi xp)).l).isEmpty then
    yE x k xA (w64 (xp+1))
   else
    yB x k xA ((zd (w64 (0 - (zf (w64 (0 - x.lo)) xp))) (zf x.hi xp)).l) (w64 (xp+1))
  else
   .x1 xp
def lr_ranges_Over_1_3 (x:Sn) (k:Sn):LR_ranges_Over_1_3→Exit × St
 | .x0 yP yS=>((.exit 0),(sd40087 0 1 2 k yS yP x))
 | .x1 xp=>((.exit 0),(sd40088 0 1 k xp x))
 | .out=>(.normal,⟨0,[],[],0,0⟩)
def iv_ranges_Over_1_3 (x:Sn) (k:Sn):LR_ranges_Over_1_3→Prop
 | .x0 yP yS=>(k.lo≤yS∧yS≤k.hi+1)∧(((yP.length:Nat):Int)≤yS - k.lo)
 | .x1 xp=>(k.lo≤xp∧xp≤k.hi+1)
 | .out=>True
def ranges_Over_1_3a_f_o1 (x:Sn) (yS:Int):List Ora:=[.dec true,.pure (I (zf (w64 (0 - x.lo)) yS)),.pure (I (zf x.hi yS)),.pure (.sl ((zd (w64 (0 - (zf (w64 (0 - x.lo)) yS))) (zf x.hi yS)).nl) (((zd (w64 (0 - (zf (w64 (0 - x.lo)) yS))) (zf x.hi yS)).l).map Sn.D) (zsl ((zd (w64 (0 - (zf (w64 (0 - x.lo)) yS))) (zf x.hi yS)).nl) 2) none)]
theorem lp_ranges_Over_1_3a (x:Sn) (k:Sn):∀ (xA:Nat) (yP:List Sn) (yS:Int) (hf3:yB x k xA yP yS ≠ .out) (hk:1≤k.lo∧k.lo≤k.hi∧k.hi≤1000∧k.hi - k.lo≤99) (hc1:k.lo≤yS∧yS≤k.hi+1) (hw1:((yP.length:Nat):Int)≤yS - k.lo),(lim cfg).loop 76 lp76_3 ⟨28,[(1,.ptr (.agg [I k.lo,I k.hi])),(2,.lref 0 0 2 0),(4,.lsl 1 0 yP.length 2 none),(5,I yS)],[(0,⟨[.agg [I x.lo,I x.hi]],2,false⟩),(1,⟨yP.map Sn.D,2,false⟩)],2,0⟩=some (lr_ranges_Over_1_3 x k (yB x k xA yP yS)):=by
 intro xA
 induction xA with
 | zero =>
  intro yP yS hf3 hk hc1 hw1
  exact absurd rfl hf3
 | succ xA ih =>
  intro yP yS hf3 hk hc1 hw1
  have hlx:=some1 (w64 (0 - (zf (w64 (0 - x.lo)) yS))) (zf x.hi yS)
  unfold yB at hf3 ⊢
  revert hf3
  cases h5:decide (yS≤k.hi) with
  | true =>
   have g5:=of_decide_eq_true h5
   have p1:=(T_ranges_down (w64 (0 - x.lo)) yS (by omega))
   have p2:=(T_ranges_some (w64 (0 - (zf (w64 (0 - x.lo)) yS))) (zf x.hi yS))
   cases h6:((zd (w64 (0 - (zf (w64 (0 - x.lo)) yS))) (zf x.hi yS)).l).isEmpty with
   | true =>
    intro hf3
    exact zN (ks:=[1,2,4,5]) (st':=(sd40089 1 0 2 yS yP x k)) ((ranges_Over_1_3a_f_o1 x yS)++[.op (some 26) ⟨.lsl 1 0 yP.length 2 none,[],[],2⟩]) (Ai (app_none (te:=zS) (gO:=zt [(0,⟨[.agg [I x.lo,I x.hi]],2,false⟩),(1,⟨yP.map Sn.D,2,false⟩)]) (nxt:=2) (f:=Sn.D) (sz:=2) (d:=.lsl 1 0 yP.length 2 none) (zd (w64 (0 - (zf (w64 (0 - x.lo)) yS))) (zf x.hi yS)) h6 rfl) (Ai p2 (Ai (T_ranges_down x.hi yS (by omega)) (Ai p1 (Ai h5 trivial))))) (by kernel_rfl) (by (simp only [sd40089,go_sem,List.length_set,Nat.reduceAdd,Nat.reduceEqDiff,Nat.reduceLT,Nat.reduceLeDiff,bI2,zc.idsL,zc.renL,zc.snapAll,z7.idsL,z7.renL,z7.snapAll]) <;> rfl) (ih yP (w64 (yS+1)) hf3 (by omega) (by simp only [List.length_append,List.length_cons,List.length_nil,zO] at * <;> omega) (by simp only [List.length_append,List.length_cons,List.length_nil,zO] at * <;> omega)) (by kernel_rfl)
   | false =>
    intro hf3
    exact zN (ks:=[1,2,4,5]) (st':=(sd40090 2 0 1 3 yS yP x k)) ((ranges_Over_1_3a_f_o1 x yS)++[.op (some 26) ⟨.lsl 2 0 ((yP++((zd (w64 (0 - (zf (w64 (0 - x.lo)) yS))) (zf x.hi yS)).l)).length) 2 none,[(1,none),(2,some ⟨(yP++((zd (w64 (0 - (zf (w64 (0 - x.lo)) yS))) (zf x.hi yS)).l)).map Sn.D,2,false⟩)],[1],3⟩]) (Ai (app_moreD (te:=zS) (gO:=zt [(0,⟨[.agg [I x.lo,I x.hi]],2,false⟩),(1,⟨yP.map Sn.D,2,false⟩)]) (nxt:=2) (o:=1) (v:=yP) z7 (zd (w64 (0 - (zf (w64 (0 - x.lo)) yS))) (zf x.hi yS)) h6 (by kernel_rfl) rfl (by kernel_rfl) (by decide) ⟨by simp only [zS,big] <;> (omega),by simp only [big] <;> (omega)⟩) (Ai p2 (Ai (T_ranges_down x.hi yS (by omega)) (Ai p1 (Ai h5 trivial))))) (by kernel_rfl) (by (simp only [sd40090,go_sem,List.length_set,Nat.reduceAdd,Nat.reduceEqDiff,Nat.reduceLT,Nat.reduceLeDiff,bI2,zc.idsL,zc.renL,zc.snapAll,z7.idsL,z7.renL,z7.snapAll]) <;> rfl) (ih (yP++((zd (w64 (0 - (zf (w64 (0 - x.lo)) yS))) (zf x.hi yS)).l)) (w64 (yS+1)) hf3 (by omega) (by simp only [List.length_append,List.length_cons,List.length_nil,zO] at * <;> omega) (by simp only [List.length_append,List.length_cons,List.length_nil,zO] at * <;> omega)) (by kernel_rfl)
  | false =>
   have g5:=of_decide_eq_false h5
   intro hf3
   exact zy [.dec false] (Ai h5 trivial) (by kernel_rfl)
theorem ivt_ranges_Over_1_3a (x:Sn) (k:Sn):∀ (xA:Nat) (yP:List Sn) (yS:Int) (hf3:yB x k xA yP yS ≠ .out) (hk:1≤k.lo∧k.lo≤k.hi∧k.hi≤1000∧k.hi - k.lo≤99) (hc1:k.lo≤yS∧yS≤k.hi+1) (hw1:((yP.length:Nat):Int)≤yS - k.lo),iv_ranges_Over_1_3 x k (yB x k xA yP yS):=by
 intro xA
 induction xA with
 | zero =>
  intro yP yS hf3 hk hc1 hw1
  exact absurd rfl hf3
 | succ xA ih =>
  intro yP yS hf3 hk hc1 hw1
  have hlx:=some1 (w64 (0 - (zf (w64 (0 - x.lo)) yS))) (zf x.hi yS)
  unfold yB at hf3 ⊢
  revert hf3
  cases h5:decide (yS≤k.hi) with
  | true =>
   have g5:=of_decide_eq_true h5
   cases h6:((zd (w64 (0 - (zf (w64 (0 - x.lo)) yS))) (zf x.hi yS)).l).isEmpty with
   | true =>
    intro hf3
    exact ih yP (w64 (yS+1)) hf3 (by omega) (by simp only [List.length_append,List.length_cons,List.length_nil,zO] at * <;> omega) (by simp only [List.length_append,List.length_cons,List.length_nil,zO] at * <;> omega)
   | false =>
    intro hf3
    exact ih (yP++((zd (w64 (0 - (zf (w64 (0 - x.lo)) yS))) (zf x.hi yS)).l)) (w64 (yS+1)) hf3 (by omega) (by simp only [List.length_append,List.length_cons,List.length_nil,zO] at * <;> omega) (by simp only [List.length_append,List.length_cons,List.length_nil,zO] at * <;> omega)
  | false =>
   have g5:=of_decide_eq_false h5
   intro hf3
   exact ⟨hc1,hw1⟩
def ranges_Over_1_3_f_o1 (x:Sn) (xp:Int):List Ora:=[.dec true,.pure (I (zf (w64 (0 - x.lo)) xp)),.pure (I (zf x.hi xp)),.pure (.sl ((zd (w64 (0 - (zf (w64 (0 - x.lo)) xp))) (zf x.hi xp)).nl) (((zd (w64 (0 - (zf (w64 (0 - x.lo)) xp))) (zf x.hi xp)).l).map Sn.D) (zsl ((zd (w64 (0 - (zf (w64 (0 - x.lo)) xp))) (zf x.hi xp)).nl) 2) none)]
theorem lp_ranges_Over_1_3 (x:Sn) (k:Sn):∀ (xA:Nat) (xp:Int) (hf3:yE x k xA xp ≠ .out) (hk:1≤k.lo∧k.lo≤k.hi∧k.hi≤1000∧k.hi - k.lo≤99) (hc0:k.lo≤xp∧xp≤k.hi+1),(lim cfg).loop 76 lp76_3 ⟨28,[(1,.ptr (.agg [I k.lo,I k.hi])),(2,.lref 0 0 2 0),(4,.sl true [] 0 none),(5,I xp)],[(0,⟨[.agg [I x.lo,I x.hi]],2,false⟩)],1,0⟩=some (lr_ranges_Over_1_3 x k (yE x k xA xp)):=by
 intro xA
 induction xA with
 | zero =>
  intro xp hf3 hk hc0
  exact absurd rfl hf3
 | succ xA ih =>
  intro xp hf3 hk hc0
  have hlx:=some1 (w64 (0 - (zf (w64 (0 - x.lo)) xp))) (zf x.hi xp)
  unfold yE at hf3 ⊢
  revert hf3
  cases h7:decide (xp≤k.hi) with
  | true =>
   have g7:=of_decide_eq_true h7
   have p1:=(T_ranges_down (w64 (0 - x.lo)) xp (by omega))
   have p2:=(T_ranges_some (w64 (0 - (zf (w64 (0 - x.lo)) xp))) (zf x.hi xp))
   cases h8:((zd (w64 (0 - (zf (w64 (0 - x.lo)) xp))) (zf x.hi xp)).l).isEmpty with
   | true =>
    intro hf3
    exact po_turn ((ranges_Over_1_3_f_o1 x xp)++[.op (some 26) ⟨.sl true [] 0 none,[],[],1⟩]) (Ai (app_none (te:=zS) (gO:=zt [(0,⟨[.agg [I x.lo,I x.hi]],2,false⟩)]) (nxt:=1) (f:=Sn.D) (sz:=2) (d:=.sl true [] 0 none) (zd (w64 (0 - (zf (w64 (0 - x.lo)) xp))) (zf x.hi xp)) h8 rfl) (Ai p2 (Ai (T_ranges_down x.hi xp (by omega)) (Ai p1 (Ai h7 trivial))))) (ih (w64 (xp+1)) hf3 (by omega) (by simp only [List.length_append,List.length_cons,List.length_nil,zO] at * <;> omega)) (by kernel_rfl)
   | false =>
    intro hf3
    exact zN (ks:=[1,2,4,5]) (st':=(sd40091 1 0 2 xp x k)) ((ranges_Over_1_3_f_o1 x xp)++[.op (some 26) ⟨.lsl 1 0 (((zd (w64 (0 - (zf (w64 (0 - x.lo)) xp))) (zf x.hi xp)).l).length) 2 none,[(1,some ⟨((zd (w64 (0 - (zf (w64 (0 - x.lo)) xp))) (zf x.hi xp)).l).map Sn.D,2,false⟩)],[],2⟩]) (Ai (app_newD (te:=zS) (gO:=zt [(0,⟨[.agg [I x.lo,I x.hi]],2,false⟩)]) (nxt:=1) (els0:=[]) (sz0:=0) (cap0:=none) z7 (zd (w64 (0 - (zf (w64 (0 - x.lo)) xp))) (zf x.hi xp)) h8 rfl (by kernel_rfl) (by decide) ⟨by simp only [zS,big] <;> (omega),by simp only [big] <;> (omega)⟩) (Ai p2 (Ai (T_ranges_down x.hi xp (by omega)) (Ai p1 (Ai h7 trivial))))) (by kernel_rfl) (by (simp only [sd40091,go_sem,List.length_set,Nat.reduceAdd,Nat.reduceEqDiff,Nat.reduceLT,Nat.reduceLeDiff,bI2,zc.idsL,zc.renL,zc.snapAll,z7.idsL,z7.renL,z7.snapAll]) <;> rfl) (lp_ranges_Over_1_3a x k _ ((zd (w64 (0 - (zf (w64 (0 - x.lo)) xp))) (zf x.hi xp)).l) (w64 (xp+1)) hf3 (by omega) (by simp only [List.length_append,List.length_cons,List.length_nil,zO] at * <;> omega) (by simp only [List.length_append,List.length_cons,List.length_nil,zO] at * <;> omega)) (by kernel_rfl)
  | false =>
   have g7:=of_decide_eq_false h7
   intro hf3
   exact zy [.dec false] (Ai h7 trivial) (by kernel_rfl)
theorem ivt_ranges_Over_1_3 (x:Sn) (k:Sn):∀ (xA:Nat) (xp:Int) (hf3:yE x k xA xp ≠ .out) (hk:1≤k.lo∧k.lo≤k.hi∧k.hi≤1000∧k.hi - k.lo≤99) (hc0:k.lo≤xp∧xp≤k.hi+1),iv_ranges_Over_1_3 x k (yE x k xA xp):=by
 intro xA
 induction xA with
 | zero =>
  intro xp hf3 hk hc0
  exact absurd rfl hf3
 | succ xA ih =>
  intro xp hf3 hk hc0
  have hlx:=some1 (w64 (0 - (zf (w64 (0 - x.lo)) xp))) (zf x.hi xp)
  unfold yE at hf3 ⊢
  revert hf3
  cases h7:decide (xp≤k.hi) with
  | true =>
   have g7:=of_decide_eq_true h7
   cases h8:((zd (w64 (0 - (zf (w64 (0 - x.lo)) xp))) (zf x.hi xp)).l).isEmpty with
   | true =>
    intro hf3
    exact ih (w64 (xp+1)) hf3 (by omega) (by simp only [List.length_append,List.length_cons,List.length_nil,zO] at * <;> omega)
   | false =>
    intro hf3
    exact ivt_ranges_Over_1_3a x k _ ((zd (w64 (0 - (zf (w64 (0 - x.lo)) xp))) (zf x.hi xp)).l) (w64 (xp+1)) hf3 (by omega) (by simp only [List.length_append,List.length_cons,List.length_nil,zO] at * <;> omega) (by simp only [List.length_append,List.length_cons,List.length_nil,zO] at * <;> omega)
  | false =>
   have g7:=of_decide_eq_false h7
   intro hf3
   exact hc0

theorem over_ne' (x k:Sn) (hk:1≤k.lo∧k.lo≤k.hi∧k.hi≤1000∧k.hi - k.lo≤99):∀ (n:Nat) (v:List Sn) (c:Int),k.lo≤c→c≤k.hi+1→k.hi - c+1 < n→yB x k n v c ≠ .out
 | 0,v,c,h1,h2,h3=>by omega
 | n+1,v,c,h1,h2,h3=>by
  unfold yB
  by_cases h:c≤k.hi
  ·rw [decide_eq_true h,y9 (n:=c+1) (by omega) (by omega)]
   simp only [cond_true]
   cases ((zd (w64 (0 - (zf (w64 (0 - x.lo)) c))) (zf x.hi c)).l).isEmpty <;> exact over_ne' x k hk n _ _ (by omega) (by omega) (by omega)
  ·rw [decide_eq_false h]; intro z; cases z
theorem over_ne'' (x k:Sn) (hk:1≤k.lo∧k.lo≤k.hi∧k.hi≤1000∧k.hi - k.lo≤99):∀ (n:Nat) (c:Int),k.lo≤c→c≤k.hi+1→k.hi - c+1 < n→yE x k n c ≠ .out
 | 0,c,h1,h2,h3=>by omega
 | n+1,c,h1,h2,h3=>by
  unfold yE
  by_cases h:c≤k.hi
  ·rw [decide_eq_true h,y9 (n:=c+1) (by omega) (by omega)]
   simp only [cond_true]
   cases ((zd (w64 (0 - (zf (w64 (0 - x.lo)) c))) (zf x.hi c)).l).isEmpty
   ·exact over_ne' x k hk n _ _ (by omega) (by omega) (by omega)
   ·exact over_ne'' x k hk n _ (by omega) (by omega) (by omega)
  ·rw [decide_eq_false h]; intro z; cases z
theorem over_ne (x k:Sn) (hk:1≤k.lo∧k.lo≤k.hi∧k.hi≤1000∧k.hi - k.lo≤99):yE x k ((k.hi - k.lo).toNat+2) k.lo ≠ .out:=over_ne'' x k hk _ _ (by omega) (by omega) (by omega)

def za (x:Sn) (k:Sn):(GS Sn) :=
 match yE x k ((k.hi - k.lo).toNat+2) k.lo with
 | .x0 yP yS =>
  GS.some yP
 | .x1 xp =>
  GS.nil
 | .out =>
  default

theorem T_ranges_Over_1 (x:Sn) (k:Sn) (hx:-1099511627776≤x.lo∧x.lo≤x.hi∧x.hi≤1099511627776) (hk:1≤k.lo∧k.lo≤k.hi∧k.hi≤1000∧k.hi - k.lo≤99):(lim cfg).pure 76 [Sn.D x,.ptr (Sn.D k)]=some (GS.D Sn.D 2 (za x k)):=by
 unfold za
 cases h9:yE x k ((k.hi - k.lo).toNat+2) k.lo with
 | x0 yP yS =>
  try dsimp only
  have hv_h9:=ivt_ranges_Over_1_3 x k ((k.hi - k.lo).toNat+2) k.lo (over_ne x k hk) (by omega) (by omega)
  rw [h9] at hv_h9
  obtain ⟨hv_h9_0,hv_h9_1⟩:=hv_h9
  try dsimp only [iv_ranges_Over_1_3] at hv_h9_0
  try dsimp only [iv_ranges_Over_1_3] at hv_h9_1
  exact po_pureS [.loop (.exit 0) (sd40087 0 1 2 k yS yP x)] [(1,.sl false (yP.map Sn.D) 2 none,[1])] (Ai (snap_row (gO:=zt [(0,⟨[.agg [I x.lo,I x.hi]],2,false⟩),(1,⟨yP.map Sn.D,2,false⟩)]) (o:=1) (len:=yP.length) (cap:=none) (fz:=false) z7 yP (by kernel_rfl) (by omega)) (Ai (zF (q:=lr_ranges_Over_1_3 x k) (lp_ranges_Over_1_3 x k ((k.hi - k.lo).toNat+2) k.lo (over_ne x k hk) (by omega) (by omega)) h9) trivial)) (by kernel_rfl)
 | x1 xp =>
  try dsimp only
  have hv_h9:=ivt_ranges_Over_1_3 x k ((k.hi - k.lo).toNat+2) k.lo (over_ne x k hk) (by omega) (by omega)
  rw [h9] at hv_h9
  have hv_h9_0:=hv_h9
  try dsimp only [iv_ranges_Over_1_3] at hv_h9_0
  exact zo [.loop (.exit 0) (sd40088 0 1 k xp x)] (Ai (zF (q:=lr_ranges_Over_1_3 x k) (lp_ranges_Over_1_3 x k ((k.hi - k.lo).toNat+2) k.lo (over_ne x k hk) (by omega) (by omega)) h9) trivial) (by kernel_rfl)
 | out =>
  exact absurd h9 ((over_ne x k hk))
end Go.VS

namespace Go.VS
open Go
set_option maxHeartbeats 0
theorem down_eq {a b:Int} (hb:1≤b) (ha:-4398046511104≤a∧a≤4398046511104):zf a b=a / b:=by
 have e:=Int.mul_tdiv_add_tmod a b
 have e1:=Int.tmod_lt_of_pos a (show 0 < b by omega)
 have e2:-b < a.tmod b:=by
  have:=Int.tmod_lt_of_pos (-a) (show 0 < b by omega)
  rw [Int.neg_tmod] at this
  omega
 have hq:-4398046511104≤a.tdiv b∧a.tdiv b≤4398046511104:=by
  have h1:(a.tdiv b).natAbs≤a.natAbs:=by
   rw [Int.natAbs_tdiv]; exact Nat.div_le_self _ _
  omega
 unfold zf
 rw [y9 (n:=a.tdiv b) (by omega) (by omega)]
 by_cases h:a.tmod b < 0
 ·rw [decide_eq_true h,cond_true,y9 (by omega) (by omega)]
  have k:a.tmod b+b+b * (a.tdiv b - 1)=a∧0≤a.tmod b+b∧a.tmod b+b < b:=⟨by rw [Int.mul_sub]; omega,by omega,by omega⟩
  exact (((Int.ediv_emod_unique (show 0 < b by omega)).2 k).1).symm
 ·rw [decide_eq_false h,cond_false]
  have k:a.tmod b+b * a.tdiv b=a∧0≤a.tmod b∧a.tmod b < b:=⟨by omega,by omega,e1⟩
  exact (((Int.ediv_emod_unique (show 0 < b by omega)).2 k).1).symm
theorem over_k {k:Sn} (hk:1≤k.lo∧k.lo≤k.hi∧k.hi≤1000) (h:decide ((w64 (k.hi - k.lo)) > 99)=false):1≤k.lo∧k.lo≤k.hi∧k.hi≤1000∧k.hi - k.lo≤99:=by
 have h:=of_decide_eq_false h
 rw [y9 (by omega) (by omega)] at h
 omega
def overL (x:Sn):Nat→Int→List Sn
 | 0,_=>[]
 | n+1,c=>someS (-((-x.lo) / c)) (x.hi / c)++overL x n (c+1)
theorem overL_len (x:Sn):∀ (n:Nat) (c:Int),(overL x n c).length≤n
 | 0,_=>Nat.le_refl _
 | n+1,c=>by
  have:=overL_len x n (c+1)
  have:=some_len (lo:=-((-x.lo) / c)) (hi:=x.hi / c)
  unfold overL
  rw [List.length_append]; omega
theorem ediv_bd {a b:Int} (hb:1≤b) (ha:-1099511627776≤a∧a≤1099511627776):-1099511627776≤a / b∧a / b≤1099511627776:=by
 have e:b * (a / b)+a % b=a:=Int.mul_ediv_add_emod a b
 have e1:=Int.emod_nonneg a (show b ≠ 0 by omega)
 have e2:=Int.emod_lt_of_pos a (show 0 < b by omega)
 generalize a / b=q at *
 generalize a % b=r at *
 constructor
 ·refine Classical.byContradiction fun h=>?_
  have:=Int.mul_le_mul_of_nonneg_left (show q≤-1099511627777 by omega) (show 0≤b by omega)
  omega
 ·refine Classical.byContradiction fun h=>?_
  have:=Int.mul_le_mul_of_nonneg_left (show 1099511627777≤q by omega) (show 0≤b by omega)
  omega
theorem over_some {x:Sn} {c:Int} (hx:-1099511627776≤x.lo∧x.lo≤x.hi∧x.hi≤1099511627776) (hc:1≤c):(zd (w64 (0 - (zf (w64 (0 - x.lo)) c))) (zf x.hi c)).l=someS (-((-x.lo) / c)) (x.hi / c):=by
 have hd:=ediv_bd (a:=-x.lo) hc (by omega)
 rw [some_l,y9 (n:=0 - x.lo) (by omega) (by omega),show (0:Int) - x.lo=-x.lo by omega,down_eq hc (by omega),down_eq hc (by omega),y9 (by omega) (by omega),show 0 - -x.lo / c=-(-x.lo / c) by omega]
theorem over3a {x k:Sn} (hx:-1099511627776≤x.lo∧x.lo≤x.hi∧x.hi≤1099511627776) (hk:1≤k.lo∧k.lo≤k.hi∧k.hi≤1000∧k.hi - k.lo≤99):∀ (f:Nat) (v:List Sn) (c:Int),k.lo≤c→c≤k.hi+1→k.hi - c+1 < f→∃ c',yB x k f v c=.x0 (v++overL x (k.hi+1 - c).toNat c) c'
 | 0,v,c,h0,h1,h2=>by omega
 | f+1,v,c,h0,h1,h2=>by
  unfold yB
  by_cases hc:c≤k.hi
  ·rw [decide_eq_true hc,cond_true,y9 (n:=c+1) (by omega) (by omega),emp_app (fun z=>yB x k f z (c+1)),over_some hx (by omega)]
   obtain ⟨c',e⟩:=over3a hx hk f (v++someS (-((-x.lo) / c)) (x.hi / c)) (c+1) (by omega) (by omega) (by omega)
   refine ⟨c',?_⟩
   rw [e,show (k.hi+1 - c).toNat=(k.hi+1 - (c+1)).toNat+1 by omega,overL,List.append_assoc]
  ·rw [decide_eq_false hc,show (k.hi+1 - c).toNat=0 by omega]
   exact ⟨c,by simp [overL]⟩
theorem over3 {x k:Sn} (hx:-1099511627776≤x.lo∧x.lo≤x.hi∧x.hi≤1099511627776) (hk:1≤k.lo∧k.lo≤k.hi∧k.hi≤1000∧k.hi - k.lo≤99):∀ (f:Nat) (c:Int),k.lo≤c→c≤k.hi+1→k.hi - c+1 < f→(∃ c',yE x k f c=.x0 (overL x (k.hi+1 - c).toNat c) c') ∨ (overL x (k.hi+1 - c).toNat c=[]∧∃ c',yE x k f c=.x1 c')
 | 0,c,h0,h1,h2=>by omega
 | f+1,c,h0,h1,h2=>by
  unfold yE
  by_cases hc:c≤k.hi
  ·rw [decide_eq_true hc,cond_true,y9 (n:=c+1) (by omega) (by omega),over_some hx (by omega),show (k.hi+1 - c).toNat=(k.hi+1 - (c+1)).toNat+1 by omega,overL]
   cases he:(someS (-((-x.lo) / c)) (x.hi / c)).isEmpty with
   | true =>
    have he':someS (-((-x.lo) / c)) (x.hi / c)=[]:=by simpa using he
    rw [he',List.nil_append]
    exact over3 hx hk f (c+1) (by omega) (by omega) (by omega)
   | false =>
    left
    exact over3a hx hk f _ (c+1) (by omega) (by omega) (by omega)
  ·rw [decide_eq_false hc,show (k.hi+1 - c).toNat=0 by omega]
   exact .inr ⟨rfl,c,rfl⟩
theorem over1_eq {x k:Sn} (hx:-1099511627776≤x.lo∧x.lo≤x.hi∧x.hi≤1099511627776) (hk:1≤k.lo∧k.lo≤k.hi∧k.hi≤1000∧k.hi - k.lo≤99):(za x k).l=overL x (k.hi+1 - k.lo).toNat k.lo:=by
 unfold za
 rcases over3 hx hk ((k.hi - k.lo).toNat+2) k.lo (by omega) (by omega) (by omega) with ⟨c',e⟩ | ⟨h,c',e⟩ <;> rw [e]
 ·rfl
 ·rw [h]; rfl
theorem over1_len (x k:Sn) (hx:-1099511627776≤x.lo∧x.lo≤x.hi∧x.hi≤1099511627776) (hk:1≤k.lo∧k.lo≤k.hi∧k.hi≤1000∧k.hi - k.lo≤99):(za x k).l.length≤100:=by
 rw [over1_eq hx hk]
 have:=overL_len x (k.hi+1 - k.lo).toNat k.lo
 omega
end Go.VS

namespace Go.VS
open Go Go.Proofs
set_option maxHeartbeats 0
set_option linter.unusedSimpArgs false
set_option linter.unusedVariables false
def sd40122 (ν0 ν1 ν2:Nat) (μ0:List Sn) (μ1:GS Sn) (μ2:Sn):St:=⟨21,[(11,B false),(1,.fn (.func 76) [] [.lref ν0 0 2 0]),(5,.lsl ν1 0 μ0.length 2 none),(8,.sl μ1.nl (μ1.l.map Sn.D) (zsl μ1.nl 2) none),(9,I ((μ1.l.length:Nat):Int)),(10,I ((μ1.l.length:Nat):Int))],[(ν0,⟨[.agg [I μ2.lo,I μ2.hi]],2,true⟩),(ν1,⟨μ0.map Sn.D,2,false⟩)],ν2,ν1⟩

def sd40123 (ν0 ν1 ν2:Nat) (μ0:List Sn) (μ1:GS Sn) (μ2:Sn):St:=⟨21,[(11,B false),(1,.fn (.func 76) [] [.lref ν0 0 2 0]),(5,.lsl ν1 0 μ0.length 2 none),(8,.sl μ1.nl (μ1.l.map Sn.D) (zsl μ1.nl 2) none),(9,I ((μ1.l.length:Nat):Int)),(10,I ((μ1.l.length:Nat):Int))],[(ν0,⟨[.agg [I μ2.lo,I μ2.hi]],2,false⟩),(ν1,⟨μ0.map Sn.D,2,false⟩)],ν2,ν1⟩

def sd40124 (ν0 ν1:Nat) (μ0:GS Sn) (μ1:Sn):St:=⟨21,[(11,B false),(1,.fn (.func 76) [] [.lref ν0 0 2 0]),(5,.sl true [] 0 none),(8,.sl μ0.nl (μ0.l.map Sn.D) (zsl μ0.nl 2) none),(9,I ((μ0.l.length:Nat):Int)),(10,I ((μ0.l.length:Nat):Int))],[(ν0,⟨[.agg [I μ1.lo,I μ1.hi]],2,true⟩)],ν1,ν1⟩

def sd40125 (ν0 ν1:Nat) (μ0:GS Sn) (μ1:Sn):St:=⟨21,[(11,B false),(1,.fn (.func 76) [] [.lref ν0 0 2 0]),(5,.sl true [] 0 none),(8,.sl μ0.nl (μ0.l.map Sn.D) (zsl μ0.nl 2) none),(9,I ((μ0.l.length:Nat):Int)),(10,I ((μ0.l.length:Nat):Int))],[(ν0,⟨[.agg [I μ1.lo,I μ1.hi]],2,false⟩)],ν1,ν1⟩

def sd40126 (ν0 ν1 ν2 ν3:Nat) (μ0:Nat) (μ1:List Sn) (μ2:Sn) (μ3:Sn) (μ4:GS Sn):St:=⟨21,[(10,I ((μ0+1:Nat):Int)),(19,I ((μ0+1:Nat):Int)),(5,.lsl ν0 0 μ1.length 2 none),(18,.lsl ν0 0 μ1.length 2 none),(17,.sl ((za μ2 μ3).nl) (((za μ2 μ3).l).map Sn.D) (zsl ((za μ2 μ3).nl) 2) none),(16,.agg [I μ2.lo,I μ2.hi]),(15,.fn (.func 76) [] [.lref ν1 0 2 0]),(14,.lsl ν0 0 μ1.length 2 none),(7,.lref ν2 0 2 0),(13,.agg [I μ2.lo,I μ2.hi]),(12,.ptr (.agg [I μ2.lo,I μ2.hi])),(11,B true),(1,.fn (.func 76) [] [.lref ν1 0 2 0]),(5,.lsl ν0 0 μ1.length 2 none),(8,.sl μ4.nl (μ4.l.map Sn.D) (zsl μ4.nl 2) none),(9,I ((μ4.l.length:Nat):Int)),(10,I ((μ0:Nat):Int))],[(ν1,⟨[.agg [I μ3.lo,I μ3.hi]],2,true⟩),(ν0,⟨μ1.map Sn.D,2,false⟩),(ν2,⟨[.agg [I μ2.lo,I μ2.hi]],2,false⟩)],ν3,ν0⟩

def sd40127 (ν0 ν1 ν2 ν3 ν4:Nat) (μ0:Nat) (μ1:List Sn) (μ2:Sn) (μ3:Sn) (μ4:GS Sn):St:=⟨21,[(10,I ((μ0+1:Nat):Int)),(19,I ((μ0+1:Nat):Int)),(5,.lsl ν0 0 ((μ1++((za μ2 μ3).l)).length) 2 none),(18,.lsl ν0 0 ((μ1++((za μ2 μ3).l)).length) 2 none),(17,.sl ((za μ2 μ3).nl) (((za μ2 μ3).l).map Sn.D) (zsl ((za μ2 μ3).nl) 2) none),(16,.agg [I μ2.lo,I μ2.hi]),(15,.fn (.func 76) [] [.lref ν1 0 2 0]),(14,.lsl ν2 0 μ1.length 2 none),(7,.lref ν3 0 2 0),(13,.agg [I μ2.lo,I μ2.hi]),(12,.ptr (.agg [I μ2.lo,I μ2.hi])),(11,B true),(1,.fn (.func 76) [] [.lref ν1 0 2 0]),(5,.lsl ν2 0 μ1.length 2 none),(8,.sl μ4.nl (μ4.l.map Sn.D) (zsl μ4.nl 2) none),(9,I ((μ4.l.length:Nat):Int)),(10,I ((μ0:Nat):Int))],[(ν1,⟨[.agg [I μ3.lo,I μ3.hi]],2,true⟩),(ν3,⟨[.agg [I μ2.lo,I μ2.hi]],2,false⟩),(ν0,⟨(μ1++((za μ2 μ3).l)).map Sn.D,2,false⟩)],ν4,ν2⟩

def sd40128 (ν0 ν1 ν2 ν3:Nat) (μ0:Nat) (μ1:List Sn) (μ2:Sn) (μ3:Sn) (μ4:GS Sn):St:=⟨21,[(10,I ((μ0+1:Nat):Int)),(19,I ((μ0+1:Nat):Int)),(5,.lsl ν0 0 μ1.length 2 none),(18,.lsl ν0 0 μ1.length 2 none),(17,.sl ((za μ2 μ3).nl) (((za μ2 μ3).l).map Sn.D) (zsl ((za μ2 μ3).nl) 2) none),(16,.agg [I μ2.lo,I μ2.hi]),(15,.fn (.func 76) [] [.lref ν1 0 2 0]),(14,.lsl ν0 0 μ1.length 2 none),(7,.lref ν2 0 2 0),(13,.agg [I μ2.lo,I μ2.hi]),(12,.ptr (.agg [I μ2.lo,I μ2.hi])),(11,B true),(1,.fn (.func 76) [] [.lref ν1 0 2 0]),(5,.lsl ν0 0 μ1.length 2 none),(8,.sl μ4.nl (μ4.l.map Sn.D) (zsl μ4.nl 2) none),(9,I ((μ4.l.length:Nat):Int)),(10,I ((μ0:Nat):Int))],[(ν1,⟨[.agg [I μ3.lo,I μ3.hi]],2,false⟩),(ν0,⟨μ1.map Sn.D,2,false⟩),(ν2,⟨[.agg [I μ2.lo,I μ2.hi]],2,false⟩)],ν3,ν0⟩

def sd40129 (ν0 ν1 ν2 ν3 ν4:Nat) (μ0:Nat) (μ1:List Sn) (μ2:Sn) (μ3:Sn) (μ4:GS Sn):St:=⟨21,[(10,I ((μ0+1:Nat):Int)),(19,I ((μ0+1:Nat):Int)),(5,.lsl ν0 0 ((μ1++((za μ2 μ3).l)).length) 2 none),(18,.lsl ν0 0 ((μ1++((za μ2 μ3).l)).length) 2 none),(17,.sl ((za μ2 μ3).nl) (((za μ2 μ3).l).map Sn.D) (zsl ((za μ2 μ3).nl) 2) none),(16,.agg [I μ2.lo,I μ2.hi]),(15,.fn (.func 76) [] [.lref ν1 0 2 0]),(14,.lsl ν2 0 μ1.length 2 none),(7,.lref ν3 0 2 0),(13,.agg [I μ2.lo,I μ2.hi]),(12,.ptr (.agg [I μ2.lo,I μ2.hi])),(11,B true),(1,.fn (.func 76) [] [.lref ν1 0 2 0]),(5,.lsl ν2 0 μ1.length 2 none),(8,.sl μ4.nl (μ4.l.map Sn.D) (zsl μ4.nl 2) none),(9,I ((μ4.l.length:Nat):Int)),(10,I ((μ0:Nat):Int))],[(ν1,⟨[.agg [I μ3.lo,I μ3.hi]],2,false⟩),(ν3,⟨[.agg [I μ2.lo,I μ2.hi]],2,false⟩),(ν0,⟨(μ1++((za μ2 μ3).l)).map Sn.D,2,false⟩)],ν4,ν2⟩

def sd40130 (ν0 ν1 ν2 ν3:Nat) (μ0:Nat) (μ1:Sn) (μ2:Sn) (μ3:GS Sn):St:=⟨21,[(10,I ((μ0+1:Nat):Int)),(19,I ((μ0+1:Nat):Int)),(5,.lsl ν0 0 (((za μ1 μ2).l).length) 2 none),(18,.lsl ν0 0 (((za μ1 μ2).l).length) 2 none),(17,.sl ((za μ1 μ2).nl) (((za μ1 μ2).l).map Sn.D) (zsl ((za μ1 μ2).nl) 2) none),(16,.agg [I μ1.lo,I μ1.hi]),(15,.fn (.func 76) [] [.lref ν1 0 2 0]),(14,.sl true [] 0 none),(7,.lref ν2 0 2 0),(13,.agg [I μ1.lo,I μ1.hi]),(12,.ptr (.agg [I μ1.lo,I μ1.hi])),(11,B true),(1,.fn (.func 76) [] [.lref ν1 0 2 0]),(5,.sl true [] 0 none),(8,.sl μ3.nl (μ3.l.map Sn.D) (zsl μ3.nl 2) none),(9,I ((μ3.l.length:Nat):Int)),(10,I ((μ0:Nat):Int))],[(ν1,⟨[.agg [I μ2.lo,I μ2.hi]],2,true⟩),(ν2,⟨[.agg [I μ1.lo,I μ1.hi]],2,false⟩),(ν0,⟨((za μ1 μ2).l).map Sn.D,2,false⟩)],ν3,ν2⟩

def sd40131 (ν0 ν1 ν2 ν3:Nat) (μ0:Nat) (μ1:Sn) (μ2:Sn) (μ3:GS Sn):St:=⟨21,[(10,I ((μ0+1:Nat):Int)),(19,I ((μ0+1:Nat):Int)),(5,.lsl ν0 0 (((za μ1 μ2).l).length) 2 none),(18,.lsl ν0 0 (((za μ1 μ2).l).length) 2 none),(17,.sl ((za μ1 μ2).nl) (((za μ1 μ2).l).map Sn.D) (zsl ((za μ1 μ2).nl) 2) none),(16,.agg [I μ1.lo,I μ1.hi]),(15,.fn (.func 76) [] [.lref ν1 0 2 0]),(14,.sl true [] 0 none),(7,.lref ν2 0 2 0),(13,.agg [I μ1.lo,I μ1.hi]),(12,.ptr (.agg [I μ1.lo,I μ1.hi])),(11,B true),(1,.fn (.func 76) [] [.lref ν1 0 2 0]),(5,.sl true [] 0 none),(8,.sl μ3.nl (μ3.l.map Sn.D) (zsl μ3.nl 2) none),(9,I ((μ3.l.length:Nat):Int)),(10,I ((μ0:Nat):Int))],[(ν1,⟨[.agg [I μ2.lo,I μ2.hi]],2,false⟩),(ν2,⟨[.agg [I μ1.lo,I μ1.hi]],2,false⟩),(ν0,⟨((za μ1 μ2).l).map Sn.D,2,false⟩)],ν3,ν2⟩

inductive LR_ranges_each_3p3 where
 | x0 (yL:List Sn)
 | x1 (yI:List Sn)
 | x2
 | x3
instance:Inhabited LR_ranges_each_3p3:=⟨.x0 default⟩
def zQ (k:Sn):List Sn→(List Sn)→LR_ranges_each_3p3
 | [],yL=>.x0 yL
 | xg::yY,yL =>
  bif (za xg k).nl then
   bif ((za xg k).l).isEmpty then
    zQ k yY yL
   else
    zQ k yY (yL++((za xg k).l))
  else
   bif ((za xg k).l).isEmpty then
    zQ k yY yL
   else
    zQ k yY (yL++((za xg k).l))
def yC (k:Sn):List Sn→(List Sn)→LR_ranges_each_3p3
 | [],yI=>.x1 yI
 | xg::yY,yI =>
  bif (za xg k).nl then
   bif ((za xg k).l).isEmpty then
    yC k yY yI
   else
    yC k yY (yI++((za xg k).l))
  else
   bif ((za xg k).l).isEmpty then
    zQ k yY yI
   else
    zQ k yY (yI++((za xg k).l))
def ranges_each_3p3b (k:Sn):List Sn→LR_ranges_each_3p3
 | []=>.x2
 | xg::yY =>
  bif (za xg k).nl then
   bif ((za xg k).l).isEmpty then
    ranges_each_3p3b k yY
   else
    zQ k yY ((za xg k).l)
  else
   bif ((za xg k).l).isEmpty then
    ranges_each_3p3b k yY
   else
    zQ k yY ((za xg k).l)
def ranges_each_3p3 (k:Sn):List Sn→LR_ranges_each_3p3
 | []=>.x3
 | xg::yY =>
  bif (za xg k).nl then
   bif ((za xg k).l).isEmpty then
    ranges_each_3p3 k yY
   else
    yC k yY ((za xg k).l)
  else
   bif ((za xg k).l).isEmpty then
    ranges_each_3p3b k yY
   else
    zQ k yY ((za xg k).l)
def lr_ranges_each_3p3 (r:GS Sn) (k:Sn):LR_ranges_each_3p3→Exit × St
 | .x0 yL=>((.exit 0),(sd40122 0 1 2 yL r k))
 | .x1 yI=>((.exit 0),(sd40123 0 1 2 yI r k))
 | .x2=>((.exit 0),(sd40124 0 1 r k))
 | .x3=>((.exit 0),(sd40125 0 1 r k))
def iv_ranges_each_3p3 (r:GS Sn) (k:Sn):LR_ranges_each_3p3→Prop
 | .x0 yL=>(yL.length≤100 * r.l.length)
 | .x1 yI=>(yI.length≤100 * r.l.length)
 | .x2=>True
 | .x3=>True
def ranges_each_3p3c_l_o1 (k:Sn) (xg:Sn):List Ora:=[.dec true,.el (.agg [I xg.lo,I xg.hi]),.pureS (.sl ((za xg k).nl) (((za xg k).l).map Sn.D) (zsl ((za xg k).nl) 2) none) true []]
def ranges_each_3p3c_l_o2 (k:Sn) (xg:Sn):List Ora:=[.dec true,.el (.agg [I xg.lo,I xg.hi]),.pureS (.sl ((za xg k).nl) (((za xg k).l).map Sn.D) (zsl ((za xg k).nl) 2) none) false []]
theorem lp_ranges_each_3p3c (r:GS Sn) (k:Sn):∀ (yY:List Sn) (xB:Nat) (yL:List Sn) (xd:r.l.drop xB=yY) (xT:xB≤r.l.length) (hB:∀ x∈r.l,-1099511627776≤x.lo∧x.lo≤x.hi∧x.hi≤1099511627776) (xV:r.l.length≤64) (hk:1≤k.lo∧k.lo≤k.hi∧k.hi≤1000∧k.hi - k.lo≤99) (hg3p3_vc3p3_0:yL.length≤100 * xB) (hL3p3:r.l.length≤1099511627776),(lim cfg).loop 70 lp70_3 ⟨21,[(1,.fn (.func 76) [] [.lref 0 0 2 0]),(5,.lsl 1 0 yL.length 2 none),(8,.sl r.nl (r.l.map Sn.D) (zsl r.nl 2) none),(9,I ((r.l.length:Nat):Int)),(10,I ((xB:Nat):Int))],[(0,⟨[.agg [I k.lo,I k.hi]],2,true⟩),(1,⟨yL.map Sn.D,2,false⟩)],2,1⟩=some (lr_ranges_each_3p3 r k (zQ k yY yL)):=by
 intro yY
 induction yY with
 | nil =>
  intro xB yL xd xT hB xV hk hg3p3_vc3p3_0 hL3p3
  unfold zQ
  obtain rfl:xB=r.l.length:=nil_eq xd xT
  exact zy [.dec false] (Ai (lt_no xd) trivial) (by kernel_rfl)
 | cons xg yY ih =>
  intro xB yL xd xT hB xV hk hg3p3_vc3p3_0 hL3p3
  have hlt3p3:=zg xd
  have hbx:=hB xg (mem_drop xd)
  have hlx:=over1_len xg k hbx hk
  unfold zQ
  have p1:=(el_at (s:=r) (f:=Sn.D) (k:=2) xd)
  cases h16:(za xg k).nl with
  | true =>
   have p2:=(Ai (show flat fuelD (.sl ((za xg k).nl) (((za xg k).l).map Sn.D) (zsl ((za xg k).nl) 2) none)=true from (by rw [h16] <;> kernel_rfl)) (Ai (trivial) (T_ranges_Over_1 xg k (by omega) (by omega))))
   cases h17:((za xg k).l).isEmpty with
   | true =>
    exact zN (ks:=[1,5,8,9,10]) (st':=(sd40126 1 0 2 3 xB yL xg k r)) ((ranges_each_3p3c_l_o1 k xg)++[.op (some 18) ⟨.lsl 1 0 yL.length 2 none,[],[],3⟩,.rw 19 (I ((xB+1:Nat):Int))]) (Ai (ya (i:=xB) (by have:=zg xd; omega)) (Ai (app_none (te:=zS) (gO:=zt [(0,⟨[.agg [I k.lo,I k.hi]],2,true⟩),(1,⟨yL.map Sn.D,2,false⟩),(2,⟨[.agg [I xg.lo,I xg.hi]],2,false⟩)]) (nxt:=3) (f:=Sn.D) (sz:=2) (d:=.lsl 1 0 yL.length 2 none) (za xg k) h17 rfl) (Ai p2 (Ai p1 (Ai (yb xd) trivial))))) (by kernel_rfl) (by (simp only [sd40126,go_sem,List.length_set,Nat.reduceAdd,Nat.reduceEqDiff,Nat.reduceLT,Nat.reduceLeDiff,bI2,zc.idsL,zc.renL,zc.snapAll,z7.idsL,z7.renL,z7.snapAll]) <;> rfl) (ih (xB+1) yL (zh xd) (zg xd) (by omega) (by omega) (by omega) (by omega) (by omega)) (by kernel_rfl)
   | false =>
    exact zN (ks:=[1,5,8,9,10]) (st':=(sd40127 3 0 1 2 4 xB yL xg k r)) ((ranges_each_3p3c_l_o1 k xg)++[.op (some 18) ⟨.lsl 3 0 ((yL++((za xg k).l)).length) 2 none,[(1,none),(3,some ⟨(yL++((za xg k).l)).map Sn.D,2,false⟩)],[1],4⟩,.rw 19 (I ((xB+1:Nat):Int))]) (Ai (ya (i:=xB) (by have:=zg xd; omega)) (Ai (app_moreD (te:=zS) (gO:=zt [(0,⟨[.agg [I k.lo,I k.hi]],2,true⟩),(1,⟨yL.map Sn.D,2,false⟩),(2,⟨[.agg [I xg.lo,I xg.hi]],2,false⟩)]) (nxt:=3) (o:=1) (v:=yL) z7 (za xg k) h17 (by kernel_rfl) rfl (by kernel_rfl) (by decide) ⟨by simp only [zS,big] <;> (omega),by simp only [big] <;> (omega)⟩) (Ai p2 (Ai p1 (Ai (yb xd) trivial))))) (by kernel_rfl) (by (simp only [sd40127,go_sem,List.length_set,Nat.reduceAdd,Nat.reduceEqDiff,Nat.reduceLT,Nat.reduceLeDiff,bI2,zc.idsL,zc.renL,zc.snapAll,z7.idsL,z7.renL,z7.snapAll]) <;> rfl) (ih (xB+1) (yL++((za xg k).l)) (zh xd) (zg xd) (by omega) (by omega) (by omega) (by simp only [List.length_append,List.length_cons,List.length_nil] at * <;> omega) (by omega)) (by kernel_rfl)
  | false =>
   have p3:=(Ai (show flat fuelD (.sl ((za xg k).nl) (((za xg k).l).map Sn.D) (zsl ((za xg k).nl) 2) none)=false from (by rw [h16] <;> kernel_rfl)) (Ai (trivial) (T_ranges_Over_1 xg k (by omega) (by omega))))
   cases h18:((za xg k).l).isEmpty with
   | true =>
    exact zN (ks:=[1,5,8,9,10]) (st':=(sd40126 1 0 2 3 xB yL xg k r)) ((ranges_each_3p3c_l_o2 k xg)++[.op (some 18) ⟨.lsl 1 0 yL.length 2 none,[],[],3⟩,.rw 19 (I ((xB+1:Nat):Int))]) (Ai (ya (i:=xB) (by have:=zg xd; omega)) (Ai (app_none (te:=zS) (gO:=zt [(0,⟨[.agg [I k.lo,I k.hi]],2,true⟩),(1,⟨yL.map Sn.D,2,false⟩),(2,⟨[.agg [I xg.lo,I xg.hi]],2,false⟩)]) (nxt:=3) (f:=Sn.D) (sz:=2) (d:=.lsl 1 0 yL.length 2 none) (za xg k) h18 rfl) (Ai p3 (Ai p1 (Ai (yb xd) trivial))))) (by kernel_rfl) (by (simp only [sd40126,go_sem,List.length_set,Nat.reduceAdd,Nat.reduceEqDiff,Nat.reduceLT,Nat.reduceLeDiff,bI2,zc.idsL,zc.renL,zc.snapAll,z7.idsL,z7.renL,z7.snapAll]) <;> rfl) (ih (xB+1) yL (zh xd) (zg xd) (by omega) (by omega) (by omega) (by omega) (by omega)) (by kernel_rfl)
   | false =>
    exact zN (ks:=[1,5,8,9,10]) (st':=(sd40127 3 0 1 2 4 xB yL xg k r)) ((ranges_each_3p3c_l_o2 k xg)++[.op (some 18) ⟨.lsl 3 0 ((yL++((za xg k).l)).length) 2 none,[(1,none),(3,some ⟨(yL++((za xg k).l)).map Sn.D,2,false⟩)],[1],4⟩,.rw 19 (I ((xB+1:Nat):Int))]) (Ai (ya (i:=xB) (by have:=zg xd; omega)) (Ai (app_moreD (te:=zS) (gO:=zt [(0,⟨[.agg [I k.lo,I k.hi]],2,true⟩),(1,⟨yL.map Sn.D,2,false⟩),(2,⟨[.agg [I xg.lo,I xg.hi]],2,false⟩)]) (nxt:=3) (o:=1) (v:=yL) z7 (za xg k) h18 (by kernel_rfl) rfl (by kernel_rfl) (by decide) ⟨by simp only [zS,big] <;> (omega),by simp only [big] <;> (omega)⟩) (Ai p3 (Ai p1 (Ai (yb xd) trivial))))) (by kernel_rfl) (by (simp only [sd40127,go_sem,List.length_set,Nat.reduceAdd,Nat.reduceEqDiff,Nat.reduceLT,Nat.reduceLeDiff,bI2,zc.idsL,zc.renL,zc.snapAll,z7.idsL,z7.renL,z7.snapAll]) <;> rfl) (ih (xB+1) (yL++((za xg k).l)) (zh xd) (zg xd) (by omega) (by omega) (by omega) (by simp only [List.length_append,List.length_cons,List.length_nil] at * <;> omega) (by omega)) (by kernel_rfl)
theorem ivt_ranges_each_3p3c (r:GS Sn) (k:Sn):∀ (yY:List Sn) (xB:Nat) (yL:List Sn) (xd:r.l.drop xB=yY) (xT:xB≤r.l.length) (hB:∀ x∈r.l,-1099511627776≤x.lo∧x.lo≤x.hi∧x.hi≤1099511627776) (xV:r.l.length≤64) (hk:1≤k.lo∧k.lo≤k.hi∧k.hi≤1000∧k.hi - k.lo≤99) (hg3p3_vc3p3_0:yL.length≤100 * xB) (hL3p3:r.l.length≤1099511627776),iv_ranges_each_3p3 r k (zQ k yY yL):=by
 intro yY
 induction yY with
 | nil =>
  intro xB yL xd xT hB xV hk hg3p3_vc3p3_0 hL3p3
  unfold zQ
  obtain rfl:xB=r.l.length:=nil_eq xd xT
  exact hg3p3_vc3p3_0
 | cons xg yY ih =>
  intro xB yL xd xT hB xV hk hg3p3_vc3p3_0 hL3p3
  have hlt3p3:=zg xd
  have hbx:=hB xg (mem_drop xd)
  have hlx:=over1_len xg k hbx hk
  unfold zQ
  cases h16:(za xg k).nl with
  | true =>
   cases h17:((za xg k).l).isEmpty with
   | true =>
    exact ih (xB+1) yL (zh xd) (zg xd) (by omega) (by omega) (by omega) (by omega) (by omega)
   | false =>
    exact ih (xB+1) (yL++((za xg k).l)) (zh xd) (zg xd) (by omega) (by omega) (by omega) (by simp only [List.length_append,List.length_cons,List.length_nil] at * <;> omega) (by omega)
  | false =>
   cases h18:((za xg k).l).isEmpty with
   | true =>
    exact ih (xB+1) yL (zh xd) (zg xd) (by omega) (by omega) (by omega) (by omega) (by omega)
   | false =>
    exact ih (xB+1) (yL++((za xg k).l)) (zh xd) (zg xd) (by omega) (by omega) (by omega) (by simp only [List.length_append,List.length_cons,List.length_nil] at * <;> omega) (by omega)
def ranges_each_3p3a_l_o1 (k:Sn) (xg:Sn):List Ora:=[.dec true,.el (.agg [I xg.lo,I xg.hi]),.pureS (.sl ((za xg k).nl) (((za xg k).l).map Sn.D) (zsl ((za xg k).nl) 2) none) true []]
def ranges_each_3p3a_l_o2 (k:Sn) (xg:Sn):List Ora:=[.dec true,.el (.agg [I xg.lo,I xg.hi]),.pureS (.sl ((za xg k).nl) (((za xg k).l).map Sn.D) (zsl ((za xg k).nl) 2) none) false []]
theorem lp_ranges_each_3p3a (r:GS Sn) (k:Sn):∀ (yY:List Sn) (xB:Nat) (yI:List Sn) (xd:r.l.drop xB=yY) (xT:xB≤r.l.length) (hB:∀ x∈r.l,-1099511627776≤x.lo∧x.lo≤x.hi∧x.hi≤1099511627776) (xV:r.l.length≤64) (hk:1≤k.lo∧k.lo≤k.hi∧k.hi≤1000∧k.hi - k.lo≤99) (hg3p3_va3p3_0:yI.length≤100 * xB) (hL3p3:r.l.length≤1099511627776),(lim cfg).loop 70 lp70_3 ⟨21,[(1,.fn (.func 76) [] [.lref 0 0 2 0]),(5,.lsl 1 0 yI.length 2 none),(8,.sl r.nl (r.l.map Sn.D) (zsl r.nl 2) none),(9,I ((r.l.length:Nat):Int)),(10,I ((xB:Nat):Int))],[(0,⟨[.agg [I k.lo,I k.hi]],2,false⟩),(1,⟨yI.map Sn.D,2,false⟩)],2,1⟩=some (lr_ranges_each_3p3 r k (yC k yY yI)):=by
 intro yY
 induction yY with
 | nil =>
  intro xB yI xd xT hB xV hk hg3p3_va3p3_0 hL3p3
  unfold yC
  obtain rfl:xB=r.l.length:=nil_eq xd xT
  exact zy [.dec false] (Ai (lt_no xd) trivial) (by kernel_rfl)
 | cons xg yY ih =>
  intro xB yI xd xT hB xV hk hg3p3_va3p3_0 hL3p3
  have hlt3p3:=zg xd
  have hbx:=hB xg (mem_drop xd)
  have hlx:=over1_len xg k hbx hk
  unfold yC
  have p1:=(el_at (s:=r) (f:=Sn.D) (k:=2) xd)
  cases h19:(za xg k).nl with
  | true =>
   have p2:=(Ai (show flat fuelD (.sl ((za xg k).nl) (((za xg k).l).map Sn.D) (zsl ((za xg k).nl) 2) none)=true from (by rw [h19] <;> kernel_rfl)) (Ai (trivial) (T_ranges_Over_1 xg k (by omega) (by omega))))
   cases h20:((za xg k).l).isEmpty with
   | true =>
    exact zN (ks:=[1,5,8,9,10]) (st':=(sd40128 1 0 2 3 xB yI xg k r)) ((ranges_each_3p3a_l_o1 k xg)++[.op (some 18) ⟨.lsl 1 0 yI.length 2 none,[],[],3⟩,.rw 19 (I ((xB+1:Nat):Int))]) (Ai (ya (i:=xB) (by have:=zg xd; omega)) (Ai (app_none (te:=zS) (gO:=zt [(0,⟨[.agg [I k.lo,I k.hi]],2,false⟩),(1,⟨yI.map Sn.D,2,false⟩),(2,⟨[.agg [I xg.lo,I xg.hi]],2,false⟩)]) (nxt:=3) (f:=Sn.D) (sz:=2) (d:=.lsl 1 0 yI.length 2 none) (za xg k) h20 rfl) (Ai p2 (Ai p1 (Ai (yb xd) trivial))))) (by kernel_rfl) (by (simp only [sd40128,go_sem,List.length_set,Nat.reduceAdd,Nat.reduceEqDiff,Nat.reduceLT,Nat.reduceLeDiff,bI2,zc.idsL,zc.renL,zc.snapAll,z7.idsL,z7.renL,z7.snapAll]) <;> rfl) (ih (xB+1) yI (zh xd) (zg xd) (by omega) (by omega) (by omega) (by omega) (by omega)) (by kernel_rfl)
   | false =>
    exact zN (ks:=[1,5,8,9,10]) (st':=(sd40129 3 0 1 2 4 xB yI xg k r)) ((ranges_each_3p3a_l_o1 k xg)++[.op (some 18) ⟨.lsl 3 0 ((yI++((za xg k).l)).length) 2 none,[(1,none),(3,some ⟨(yI++((za xg k).l)).map Sn.D,2,false⟩)],[1],4⟩,.rw 19 (I ((xB+1:Nat):Int))]) (Ai (ya (i:=xB) (by have:=zg xd; omega)) (Ai (app_moreD (te:=zS) (gO:=zt [(0,⟨[.agg [I k.lo,I k.hi]],2,false⟩),(1,⟨yI.map Sn.D,2,false⟩),(2,⟨[.agg [I xg.lo,I xg.hi]],2,false⟩)]) (nxt:=3) (o:=1) (v:=yI) z7 (za xg k) h20 (by kernel_rfl) rfl (by kernel_rfl) (by decide) ⟨by simp only [zS,big] <;> (omega),by simp only [big] <;> (omega)⟩) (Ai p2 (Ai p1 (Ai (yb xd) trivial))))) (by kernel_rfl) (by (simp only [sd40129,go_sem,List.length_set,Nat.reduceAdd,Nat.reduceEqDiff,Nat.reduceLT,Nat.reduceLeDiff,bI2,zc.idsL,zc.renL,zc.snapAll,z7.idsL,z7.renL,z7.snapAll]) <;> rfl) (ih (xB+1) (yI++((za xg k).l)) (zh xd) (zg xd) (by omega) (by omega) (by omega) (by simp only [List.length_append,List.length_cons,List.length_nil] at * <;> omega) (by omega)) (by kernel_rfl)
  | false =>
   have p3:=(Ai (show flat fuelD (.sl ((za xg k).nl) (((za xg k).l).map Sn.D) (zsl ((za xg k).nl) 2) none)=false from (by rw [h19] <;> kernel_rfl)) (Ai (trivial) (T_ranges_Over_1 xg k (by omega) (by omega))))
   cases h21:((za xg k).l).isEmpty with
   | true =>
    exact zN (ks:=[1,5,8,9,10]) (st':=(sd40126 1 0 2 3 xB yI xg k r)) ((ranges_each_3p3a_l_o2 k xg)++[.op (some 18) ⟨.lsl 1 0 yI.length 2 none,[],[],3⟩,.rw 19 (I ((xB+1:Nat):Int))]) (Ai (ya (i:=xB) (by have:=zg xd; omega)) (Ai (app_none (te:=zS) (gO:=zt [(0,⟨[.agg [I k.lo,I k.hi]],2,true⟩),(1,⟨yI.map Sn.D,2,false⟩),(2,⟨[.agg [I xg.lo,I xg.hi]],2,false⟩)]) (nxt:=3) (f:=Sn.D) (sz:=2) (d:=.lsl 1 0 yI.length 2 none) (za xg k) h21 rfl) (Ai p3 (Ai p1 (Ai (yb xd) trivial))))) (by kernel_rfl) (by (simp only [sd40126,go_sem,List.length_set,Nat.reduceAdd,Nat.reduceEqDiff,Nat.reduceLT,Nat.reduceLeDiff,bI2,zc.idsL,zc.renL,zc.snapAll,z7.idsL,z7.renL,z7.snapAll]) <;> rfl) (lp_ranges_each_3p3c r k _ (xB+1) yI (zh xd) (zg xd) (by omega) (by omega) (by omega) (by omega) (by omega)) (by kernel_rfl)
   | false =>
    exact zN (ks:=[1,5,8,9,10]) (st':=(sd40127 3 0 1 2 4 xB yI xg k r)) ((ranges_each_3p3a_l_o2 k xg)++[.op (some 18) ⟨.lsl 3 0 ((yI++((za xg k).l)).length) 2 none,[(1,none),(3,some ⟨(yI++((za xg k).l)).map Sn.D,2,false⟩)],[1],4⟩,.rw 19 (I ((xB+1:Nat):Int))]) (Ai (ya (i:=xB) (by have:=zg xd; omega)) (Ai (app_moreD (te:=zS) (gO:=zt [(0,⟨[.agg [I k.lo,I k.hi]],2,true⟩),(1,⟨yI.map Sn.D,2,false⟩),(2,⟨[.agg [I xg.lo,I xg.hi]],2,false⟩)]) (nxt:=3) (o:=1) (v:=yI) z7 (za xg k) h21 (by kernel_rfl) rfl (by kernel_rfl) (by decide) ⟨by simp only [zS,big] <;> (omega),by simp only [big] <;> (omega)⟩) (Ai p3 (Ai p1 (Ai (yb xd) trivial))))) (by kernel_rfl) (by (simp only [sd40127,go_sem,List.length_set,Nat.reduceAdd,Nat.reduceEqDiff,Nat.reduceLT,Nat.reduceLeDiff,bI2,zc.idsL,zc.renL,zc.snapAll,z7.idsL,z7.renL,z7.snapAll]) <;> rfl) (lp_ranges_each_3p3c r k _ (xB+1) (yI++((za xg k).l)) (zh xd) (zg xd) (by omega) (by omega) (by omega) (by simp only [List.length_append,List.length_cons,List.length_nil] at * <;> omega) (by omega)) (by kernel_rfl)
theorem ivt_ranges_each_3p3a (r:GS Sn) (k:Sn):∀ (yY:List Sn) (xB:Nat) (yI:List Sn) (xd:r.l.drop xB=yY) (xT:xB≤r.l.length) (hB:∀ x∈r.l,-1099511627776≤x.lo∧x.lo≤x.hi∧x.hi≤1099511627776) (xV:r.l.length≤64) (hk:1≤k.lo∧k.lo≤k.hi∧k.hi≤1000∧k.hi - k.lo≤99) (hg3p3_va3p3_0:yI.length≤100 * xB) (hL3p3:r.l.length≤1099511627776),iv_ranges_each_3p3 r k (yC k yY yI):=by
 intro yY
 induction yY with
 | nil =>
  intro xB yI xd xT hB xV hk hg3p3_va3p3_0 hL3p3
  unfold yC
  obtain rfl:xB=r.l.length:=nil_eq xd xT
  exact hg3p3_va3p3_0
 | cons xg yY ih =>
  intro xB yI xd xT hB xV hk hg3p3_va3p3_0 hL3p3
  have hlt3p3:=zg xd
  have hbx:=hB xg (mem_drop xd)
  have hlx:=over1_len xg k hbx hk
  unfold yC
  cases h19:(za xg k).nl with
  | true =>
   cases h20:((za xg k).l).isEmpty with
   | true =>
    exact ih (xB+1) yI (zh xd) (zg xd) (by omega) (by omega) (by omega) (by omega) (by omega)
   | false =>
    exact ih (xB+1) (yI++((za xg k).l)) (zh xd) (zg xd) (by omega) (by omega) (by omega) (by simp only [List.length_append,List.length_cons,List.length_nil] at * <;> omega) (by omega)
  | false =>
   cases h21:((za xg k).l).isEmpty with
   | true =>
    exact ivt_ranges_each_3p3c r k _ (xB+1) yI (zh xd) (zg xd) (by omega) (by omega) (by omega) (by omega) (by omega)
   | false =>
    exact ivt_ranges_each_3p3c r k _ (xB+1) (yI++((za xg k).l)) (zh xd) (zg xd) (by omega) (by omega) (by omega) (by simp only [List.length_append,List.length_cons,List.length_nil] at * <;> omega) (by omega)
def ranges_each_3p3b_l_o1 (k:Sn) (xg:Sn):List Ora:=[.dec true,.el (.agg [I xg.lo,I xg.hi]),.pureS (.sl ((za xg k).nl) (((za xg k).l).map Sn.D) (zsl ((za xg k).nl) 2) none) true []]
def ranges_each_3p3b_l_o2 (k:Sn) (xg:Sn):List Ora:=[.dec true,.el (.agg [I xg.lo,I xg.hi]),.pureS (.sl ((za xg k).nl) (((za xg k).l).map Sn.D) (zsl ((za xg k).nl) 2) none) false []]
theorem lp_ranges_each_3p3b (r:GS Sn) (k:Sn):∀ (yY:List Sn) (xB:Nat) (xd:r.l.drop xB=yY) (xT:xB≤r.l.length) (hB:∀ x∈r.l,-1099511627776≤x.lo∧x.lo≤x.hi∧x.hi≤1099511627776) (xV:r.l.length≤64) (hk:1≤k.lo∧k.lo≤k.hi∧k.hi≤1000∧k.hi - k.lo≤99) (hL3p3:r.l.length≤1099511627776),(lim cfg).loop 70 lp70_3 ⟨21,[(1,.fn (.func 76) [] [.lref 0 0 2 0]),(5,.sl true [] 0 none),(8,.sl r.nl (r.l.map Sn.D) (zsl r.nl 2) none),(9,I ((r.l.length:Nat):Int)),(10,I ((xB:Nat):Int))],[(0,⟨[.agg [I k.lo,I k.hi]],2,true⟩)],1,1⟩=some (lr_ranges_each_3p3 r k (ranges_each_3p3b k yY)):=by
 intro yY
 induction yY with
 | nil =>
  intro xB xd xT hB xV hk hL3p3
  unfold ranges_each_3p3b
  obtain rfl:xB=r.l.length:=nil_eq xd xT
  exact zy [.dec false] (Ai (lt_no xd) trivial) (by kernel_rfl)
 | cons xg yY ih =>
  intro xB xd xT hB xV hk hL3p3
  have hlt3p3:=zg xd
  have hbx:=hB xg (mem_drop xd)
  have hlx:=over1_len xg k hbx hk
  unfold ranges_each_3p3b
  have p1:=(el_at (s:=r) (f:=Sn.D) (k:=2) xd)
  cases h22:(za xg k).nl with
  | true =>
   have p2:=(Ai (show flat fuelD (.sl ((za xg k).nl) (((za xg k).l).map Sn.D) (zsl ((za xg k).nl) 2) none)=true from (by rw [h22] <;> kernel_rfl)) (Ai (trivial) (T_ranges_Over_1 xg k (by omega) (by omega))))
   cases h23:((za xg k).l).isEmpty with
   | true =>
    exact po_turn ((ranges_each_3p3b_l_o1 k xg)++[.op (some 18) ⟨.sl true [] 0 none,[],[],2⟩,.rw 19 (I ((xB+1:Nat):Int))]) (Ai (ya (i:=xB) (by have:=zg xd; omega)) (Ai (app_none (te:=zS) (gO:=zt [(0,⟨[.agg [I k.lo,I k.hi]],2,true⟩),(1,⟨[.agg [I xg.lo,I xg.hi]],2,false⟩)]) (nxt:=2) (f:=Sn.D) (sz:=2) (d:=.sl true [] 0 none) (za xg k) h23 rfl) (Ai p2 (Ai p1 (Ai (yb xd) trivial))))) (ih (xB+1) (zh xd) (zg xd) (by omega) (by omega) (by omega) (by omega)) (by kernel_rfl)
   | false =>
    exact zN (ks:=[1,5,8,9,10]) (st':=(sd40130 2 0 1 3 xB xg k r)) ((ranges_each_3p3b_l_o1 k xg)++[.op (some 18) ⟨.lsl 2 0 (((za xg k).l).length) 2 none,[(2,some ⟨((za xg k).l).map Sn.D,2,false⟩)],[],3⟩,.rw 19 (I ((xB+1:Nat):Int))]) (Ai (ya (i:=xB) (by have:=zg xd; omega)) (Ai (app_newD (te:=zS) (gO:=zt [(0,⟨[.agg [I k.lo,I k.hi]],2,true⟩),(1,⟨[.agg [I xg.lo,I xg.hi]],2,false⟩)]) (nxt:=2) (els0:=[]) (sz0:=0) (cap0:=none) z7 (za xg k) h23 rfl (by kernel_rfl) (by decide) ⟨by simp only [zS,big] <;> (omega),by simp only [big] <;> (omega)⟩) (Ai p2 (Ai p1 (Ai (yb xd) trivial))))) (by kernel_rfl) (by (simp only [sd40130,go_sem,List.length_set,Nat.reduceAdd,Nat.reduceEqDiff,Nat.reduceLT,Nat.reduceLeDiff,bI2,zc.idsL,zc.renL,zc.snapAll,z7.idsL,z7.renL,z7.snapAll]) <;> rfl) (lp_ranges_each_3p3c r k _ (xB+1) ((za xg k).l) (zh xd) (zg xd) (by omega) (by omega) (by omega) (by omega) (by omega)) (by kernel_rfl)
  | false =>
   have p3:=(Ai (show flat fuelD (.sl ((za xg k).nl) (((za xg k).l).map Sn.D) (zsl ((za xg k).nl) 2) none)=false from (by rw [h22] <;> kernel_rfl)) (Ai (trivial) (T_ranges_Over_1 xg k (by omega) (by omega))))
   cases h24:((za xg k).l).isEmpty with
   | true =>
    exact po_turn ((ranges_each_3p3b_l_o2 k xg)++[.op (some 18) ⟨.sl true [] 0 none,[],[],2⟩,.rw 19 (I ((xB+1:Nat):Int))]) (Ai (ya (i:=xB) (by have:=zg xd; omega)) (Ai (app_none (te:=zS) (gO:=zt [(0,⟨[.agg [I k.lo,I k.hi]],2,true⟩),(1,⟨[.agg [I xg.lo,I xg.hi]],2,false⟩)]) (nxt:=2) (f:=Sn.D) (sz:=2) (d:=.sl true [] 0 none) (za xg k) h24 rfl) (Ai p3 (Ai p1 (Ai (yb xd) trivial))))) (ih (xB+1) (zh xd) (zg xd) (by omega) (by omega) (by omega) (by omega)) (by kernel_rfl)
   | false =>
    exact zN (ks:=[1,5,8,9,10]) (st':=(sd40130 2 0 1 3 xB xg k r)) ((ranges_each_3p3b_l_o2 k xg)++[.op (some 18) ⟨.lsl 2 0 (((za xg k).l).length) 2 none,[(2,some ⟨((za xg k).l).map Sn.D,2,false⟩)],[],3⟩,.rw 19 (I ((xB+1:Nat):Int))]) (Ai (ya (i:=xB) (by have:=zg xd; omega)) (Ai (app_newD (te:=zS) (gO:=zt [(0,⟨[.agg [I k.lo,I k.hi]],2,true⟩),(1,⟨[.agg [I xg.lo,I xg.hi]],2,false⟩)]) (nxt:=2) (els0:=[]) (sz0:=0) (cap0:=none) z7 (za xg k) h24 rfl (by kernel_rfl) (by decide) ⟨by simp only [zS,big] <;> (omega),by simp only [big] <;> (omega)⟩) (Ai p3 (Ai p1 (Ai (yb xd) trivial))))) (by kernel_rfl) (by (simp only [sd40130,go_sem,List.length_set,Nat.reduceAdd,Nat.reduceEqDiff,Nat.reduceLT,Nat.reduceLeDiff,bI2,zc.idsL,zc.renL,zc.snapAll,z7.idsL,z7.renL,z7.snapAll]) <;> rfl) (lp_ranges_each_3p3c r k _ (xB+1) ((za xg k).l) (zh xd) (zg xd) (by omega) (by omega) (by omega) (by omega) (by omega)) (by kernel_rfl)
theorem ivt_ranges_each_3p3b (r:GS Sn) (k:Sn):∀ (yY:List Sn) (xB:Nat) (xd:r.l.drop xB=yY) (xT:xB≤r.l.length) (hB:∀ x∈r.l,-1099511627776≤x.lo∧x.lo≤x.hi∧x.hi≤1099511627776) (xV:r.l.length≤64) (hk:1≤k.lo∧k.lo≤k.hi∧k.hi≤1000∧k.hi - k.lo≤99) (hL3p3:r.l.length≤1099511627776),iv_ranges_each_3p3 r k (ranges_each_3p3b k yY):=by
 intro yY
 induction yY with
 | nil =>
  intro xB xd xT hB xV hk hL3p3
  unfold ranges_each_3p3b
  obtain rfl:xB=r.l.length:=nil_eq xd xT
  exact trivial
 | cons xg yY ih =>
  intro xB xd xT hB xV hk hL3p3
  have hlt3p3:=zg xd
  have hbx:=hB xg (mem_drop xd)
  have hlx:=over1_len xg k hbx hk
  unfold ranges_each_3p3b
  cases h22:(za xg k).nl with
  | true =>
   cases h23:((za xg k).l).isEmpty with
   | true =>
    exact ih (xB+1) (zh xd) (zg xd) (by omega) (by omega) (by omega) (by omega)
   | false =>
    exact ivt_ranges_each_3p3c r k _ (xB+1) ((za xg k).l) (zh xd) (zg xd) (by omega) (by omega) (by omega) (by omega) (by omega)
  | false =>
   cases h24:((za xg k).l).isEmpty with
   | true =>
    exact ih (xB+1) (zh xd) (zg xd) (by omega) (by omega) (by omega) (by omega)
   | false =>
    exact ivt_ranges_each_3p3c r k _ (xB+1) ((za xg k).l) (zh xd) (zg xd) (by omega) (by omega) (by omega) (by omega) (by omega)
def ranges_each_3p3_l_o1 (k:Sn) (xg:Sn):List Ora:=[.dec true,.el (.agg [I xg.lo,I xg.hi]),.pureS (.sl ((za xg k).nl) (((za xg k).l).map Sn.D) (zsl ((za xg k).nl) 2) none) true []]
def ranges_each_3p3_l_o2 (k:Sn) (xg:Sn):List Ora:=[.dec true,.el (.agg [I xg.lo,I xg.hi]),.pureS (.sl ((za xg k).nl) (((za xg k).l).map Sn.D) (zsl ((za xg k).nl) 2) none) false []]
theorem lp_ranges_each_3p3 (r:GS Sn) (k:Sn):∀ (yY:List Sn) (xB:Nat) (xd:r.l.drop xB=yY) (xT:xB≤r.l.length) (hB:∀ x∈r.l,-1099511627776≤x.lo∧x.lo≤x.hi∧x.hi≤1099511627776) (xV:r.l.length≤64) (hk:1≤k.lo∧k.lo≤k.hi∧k.hi≤1000∧k.hi - k.lo≤99) (hL3p3:r.l.length≤1099511627776),(lim cfg).loop 70 lp70_3 ⟨21,[(1,.fn (.func 76) [] [.lref 0 0 2 0]),(5,.sl true [] 0 none),(8,.sl r.nl (r.l.map Sn.D) (zsl r.nl 2) none),(9,I ((r.l.length:Nat):Int)),(10,I ((xB:Nat):Int))],[(0,⟨[.agg [I k.lo,I k.hi]],2,false⟩)],1,1⟩=some (lr_ranges_each_3p3 r k (ranges_each_3p3 k yY)):=by
 intro yY
 induction yY with
 | nil =>
  intro xB xd xT hB xV hk hL3p3
  unfold ranges_each_3p3
  obtain rfl:xB=r.l.length:=nil_eq xd xT
  exact zy [.dec false] (Ai (lt_no xd) trivial) (by kernel_rfl)
 | cons xg yY ih =>
  intro xB xd xT hB xV hk hL3p3
  have hlt3p3:=zg xd
  have hbx:=hB xg (mem_drop xd)
  have hlx:=over1_len xg k hbx hk
  unfold ranges_each_3p3
  have p1:=(el_at (s:=r) (f:=Sn.D) (k:=2) xd)
  cases h25:(za xg k).nl with
  | true =>
   have p2:=(Ai (show flat fuelD (.sl ((za xg k).nl) (((za xg k).l).map Sn.D) (zsl ((za xg k).nl) 2) none)=true from (by rw [h25] <;> kernel_rfl)) (Ai (trivial) (T_ranges_Over_1 xg k (by omega) (by omega))))
   cases h26:((za xg k).l).isEmpty with
   | true =>
    exact po_turn ((ranges_each_3p3_l_o1 k xg)++[.op (some 18) ⟨.sl true [] 0 none,[],[],2⟩,.rw 19 (I ((xB+1:Nat):Int))]) (Ai (ya (i:=xB) (by have:=zg xd; omega)) (Ai (app_none (te:=zS) (gO:=zt [(0,⟨[.agg [I k.lo,I k.hi]],2,false⟩),(1,⟨[.agg [I xg.lo,I xg.hi]],2,false⟩)]) (nxt:=2) (f:=Sn.D) (sz:=2) (d:=.sl true [] 0 none) (za xg k) h26 rfl) (Ai p2 (Ai p1 (Ai (yb xd) trivial))))) (ih (xB+1) (zh xd) (zg xd) (by omega) (by omega) (by omega) (by omega)) (by kernel_rfl)
   | false =>
    exact zN (ks:=[1,5,8,9,10]) (st':=(sd40131 2 0 1 3 xB xg k r)) ((ranges_each_3p3_l_o1 k xg)++[.op (some 18) ⟨.lsl 2 0 (((za xg k).l).length) 2 none,[(2,some ⟨((za xg k).l).map Sn.D,2,false⟩)],[],3⟩,.rw 19 (I ((xB+1:Nat):Int))]) (Ai (ya (i:=xB) (by have:=zg xd; omega)) (Ai (app_newD (te:=zS) (gO:=zt [(0,⟨[.agg [I k.lo,I k.hi]],2,false⟩),(1,⟨[.agg [I xg.lo,I xg.hi]],2,false⟩)]) (nxt:=2) (els0:=[]) (sz0:=0) (cap0:=none) z7 (za xg k) h26 rfl (by kernel_rfl) (by decide) ⟨by simp only [zS,big] <;> (omega),by simp only [big] <;> (omega)⟩) (Ai p2 (Ai p1 (Ai (yb xd) trivial))))) (by kernel_rfl) (by (simp only [sd40131,go_sem,List.length_set,Nat.reduceAdd,Nat.reduceEqDiff,Nat.reduceLT,Nat.reduceLeDiff,bI2,zc.idsL,zc.renL,zc.snapAll,z7.idsL,z7.renL,z7.snapAll]) <;> rfl) (lp_ranges_each_3p3a r k _ (xB+1) ((za xg k).l) (zh xd) (zg xd) (by omega) (by omega) (by omega) (by omega) (by omega)) (by kernel_rfl)
  | false =>
   have p3:=(Ai (show flat fuelD (.sl ((za xg k).nl) (((za xg k).l).map Sn.D) (zsl ((za xg k).nl) 2) none)=false from (by rw [h25] <;> kernel_rfl)) (Ai (trivial) (T_ranges_Over_1 xg k (by omega) (by omega))))
   cases h27:((za xg k).l).isEmpty with
   | true =>
    exact po_turn ((ranges_each_3p3_l_o2 k xg)++[.op (some 18) ⟨.sl true [] 0 none,[],[],2⟩,.rw 19 (I ((xB+1:Nat):Int))]) (Ai (ya (i:=xB) (by have:=zg xd; omega)) (Ai (app_none (te:=zS) (gO:=zt [(0,⟨[.agg [I k.lo,I k.hi]],2,true⟩),(1,⟨[.agg [I xg.lo,I xg.hi]],2,false⟩)]) (nxt:=2) (f:=Sn.D) (sz:=2) (d:=.sl true [] 0 none) (za xg k) h27 rfl) (Ai p3 (Ai p1 (Ai (yb xd) trivial))))) (lp_ranges_each_3p3b r k _ (xB+1) (zh xd) (zg xd) (by omega) (by omega) (by omega) (by omega)) (by kernel_rfl)
   | false =>
    exact zN (ks:=[1,5,8,9,10]) (st':=(sd40130 2 0 1 3 xB xg k r)) ((ranges_each_3p3_l_o2 k xg)++[.op (some 18) ⟨.lsl 2 0 (((za xg k).l).length) 2 none,[(2,some ⟨((za xg k).l).map Sn.D,2,false⟩)],[],3⟩,.rw 19 (I ((xB+1:Nat):Int))]) (Ai (ya (i:=xB) (by have:=zg xd; omega)) (Ai (app_newD (te:=zS) (gO:=zt [(0,⟨[.agg [I k.lo,I k.hi]],2,true⟩),(1,⟨[.agg [I xg.lo,I xg.hi]],2,false⟩)]) (nxt:=2) (els0:=[]) (sz0:=0) (cap0:=none) z7 (za xg k) h27 rfl (by kernel_rfl) (by decide) ⟨by simp only [zS,big] <;> (omega),by simp only [big] <;> (omega)⟩) (Ai p3 (Ai p1 (Ai (yb xd) trivial))))) (by kernel_rfl) (by (simp only [sd40130,go_sem,List.length_set,Nat.reduceAdd,Nat.reduceEqDiff,Nat.reduceLT,Nat.reduceLeDiff,bI2,zc.idsL,zc.renL,zc.snapAll,z7.idsL,z7.renL,z7.snapAll]) <;> rfl) (lp_ranges_each_3p3c r k _ (xB+1) ((za xg k).l) (zh xd) (zg xd) (by omega) (by omega) (by omega) (by omega) (by omega)) (by kernel_rfl)
theorem ivt_ranges_each_3p3 (r:GS Sn) (k:Sn):∀ (yY:List Sn) (xB:Nat) (xd:r.l.drop xB=yY) (xT:xB≤r.l.length) (hB:∀ x∈r.l,-1099511627776≤x.lo∧x.lo≤x.hi∧x.hi≤1099511627776) (xV:r.l.length≤64) (hk:1≤k.lo∧k.lo≤k.hi∧k.hi≤1000∧k.hi - k.lo≤99) (hL3p3:r.l.length≤1099511627776),iv_ranges_each_3p3 r k (ranges_each_3p3 k yY):=by
 intro yY
 induction yY with
 | nil =>
  intro xB xd xT hB xV hk hL3p3
  unfold ranges_each_3p3
  obtain rfl:xB=r.l.length:=nil_eq xd xT
  exact trivial
 | cons xg yY ih =>
  intro xB xd xT hB xV hk hL3p3
  have hlt3p3:=zg xd
  have hbx:=hB xg (mem_drop xd)
  have hlx:=over1_len xg k hbx hk
  unfold ranges_each_3p3
  cases h25:(za xg k).nl with
  | true =>
   cases h26:((za xg k).l).isEmpty with
   | true =>
    exact ih (xB+1) (zh xd) (zg xd) (by omega) (by omega) (by omega) (by omega)
   | false =>
    exact ivt_ranges_each_3p3a r k _ (xB+1) ((za xg k).l) (zh xd) (zg xd) (by omega) (by omega) (by omega) (by omega) (by omega)
  | false =>
   cases h27:((za xg k).l).isEmpty with
   | true =>
    exact ivt_ranges_each_3p3b r k _ (xB+1) (zh xd) (zg xd) (by omega) (by omega) (by omega) (by omega)
   | false =>
    exact ivt_ranges_each_3p3c r k _ (xB+1) ((za xg k).l) (zh xd) (zg xd) (by omega) (by omega) (by omega) (by omega) (by omega)

def zk (r:GS Sn) (k:Sn):(GS Sn) × Int :=
 bif ((zv r) != 0) then
  (GS.nil,(zv r))
 else
  bif (zV k 1) then
   bif decide ((w64 (k.hi - k.lo)) > 99) then
    (GS.nil,1)
   else
    match ranges_each_3p3 k r.l with
    | .x0 yL =>
     match zA (zz zx yL) 0 with
     | .x0 yH =>
      bif decide (((yH.length:Nat):Int) > 64) then
       (GS.nil,2)
      else
       (GS.some yH,0)
     | .x1 xu xc yH =>
      (GS.nil,2)
     | .x2 xu xc yH =>
      (GS.nil,2)
     | .x3 =>
      (GS.nil,0)
     | .x4 xu xc =>
      (GS.nil,2)
     | .x5 xu xc =>
      (GS.nil,2)
    | .x1 yI =>
     match zA (zz zx yI) 0 with
     | .x0 yH =>
      bif decide (((yH.length:Nat):Int) > 64) then
       (GS.nil,2)
      else
       (GS.some yH,0)
     | .x1 xu xc yH =>
      (GS.nil,2)
     | .x2 xu xc yH =>
      (GS.nil,2)
     | .x3 =>
      (GS.nil,0)
     | .x4 xu xc =>
      (GS.nil,2)
     | .x5 xu xc =>
      (GS.nil,2)
    | .x2 =>
     (GS.nil,0)
    | .x3 =>
     (GS.nil,0)
  else
   (GS.nil,1)

def ranges_Over_o1 (r:GS Sn) (k:Sn) (yL:List Sn):List Ora:=[.pure (I (zv r)),.dec false,.pure (B (zV k 1)),.dec true,.dec false,.inl (.lsl 1 0 yL.length 2 none) [(0,⟨[.agg [I k.lo,I k.hi]],2,true⟩),(1,⟨yL.map Sn.D,2,false⟩)] 2]

def ranges_Over_o2 (r:GS Sn) (k:Sn) (yI:List Sn):List Ora:=[.pure (I (zv r)),.dec false,.pure (B (zV k 1)),.dec true,.dec false,.inl (.lsl 1 0 yI.length 2 none) [(0,⟨[.agg [I k.lo,I k.hi]],2,false⟩),(1,⟨yI.map Sn.D,2,false⟩)] 2]

theorem T_ranges_Over (r:GS Sn) (k:Sn) (hLr:r.l.length≤9223372036854775807) (hL_r:r.l.length≤9223372036854775807):(lim cfg).pure 19 [GS.D Sn.D 2 r,Sn.D k]=some (.tup [GS.D Sn.D 2 ((zk r k).1),I ((zk r k).2)]):=by
 unfold zk
 cases h1:((zv r) != 0) with
 | true =>
  have g1:=bne_true h1
  exact zo [.pure (I (zv r)),.dec true] (Ai h1 (Ai (zw r (by omega)) trivial)) (by kernel_rfl)
 | false =>
  obtain ⟨g1,gb1⟩:=chk1 (bne_false h1)
  cases h2:(zV k 1) with
  | true =>
   have hk:=const_iff.1 h2
   cases h3:decide ((w64 (k.hi - k.lo)) > 99) with
   | true =>
    have g3:=of_decide_eq_true h3
    exact zo [.pure (I (zv r)),.dec false,.pure (B (zV k 1)),.dec true,.dec true] (Ai h3 (Ai h2 (Ai (zn k 1) (Ai h1 (Ai (zw r (by omega)) trivial))))) (by kernel_rfl)
   | false =>
    have hk:=over_k hk h3
    cases h28:ranges_each_3p3 k r.l with
    | x0 yL =>
     try dsimp only
     have xH:=ivt_ranges_each_3p3 r k r.l 0 (List.drop_zero) (Nat.zero_le _) (by omega) (by omega) (by omega) (by omega)
     rw [h28] at xH
     have xF:=xH
     try dsimp only [iv_ranges_each_3p3] at xF
     have p1:=(show (lim cfg).inl 70 [.sl r.nl (r.l.map Sn.D) (zsl r.nl 2) none,.fn (.func 76) [] [.lref 0 0 2 0]] [(0,⟨[.agg [I k.lo,I k.hi]],2,false⟩)] 1=some (.lsl 1 0 yL.length 2 none,[(0,⟨[.agg [I k.lo,I k.hi]],2,true⟩),(1,⟨yL.map Sn.D,2,false⟩)],2) from zH [.rw 9 (I ((r.l.length:Nat):Int)),.loop (.exit 0) (sd40122 0 1 2 yL r k)] (Ai (zF (q:=lr_ranges_each_3p3 r k) (lp_ranges_each_3p3 r k r.l 0 (List.drop_zero) (Nat.zero_le _) (by omega) (by omega) (by omega) (by omega)) h28) (Ai (zW Sn.D r) trivial)) (by kernel_rfl))
     cases h29:zA (zz zx yL) 0 with
     | x0 yH =>
      try dsimp only
      have hv_h29:=zX yL (zz zx yL) (zz zx yL) 0 (List.drop_zero) (Nat.zero_le _) (by simp only [yw,GS.some_l,List.length_set,List.length_append,List.length_cons,List.length_nil] at * <;> first | with_reducible assumption | omega) (by simp only [yw,GS.some_l,List.length_set,List.length_append,List.length_cons,List.length_nil] at * <;> first | with_reducible assumption | omega)
      rw [h29] at hv_h29
      obtain ⟨w9,hv_h29_1⟩:=hv_h29
      try dsimp only [zu] at w9
      try dsimp only [zu] at hv_h29_1
      cases h30:decide (((yH.length:Nat):Int) > 64) with
      | true =>
       have g30:=of_decide_eq_true h30
       exact zo ((ranges_Over_o1 r k yL)++[.inlS [1] (.tup [.sl true [] 0 none,I 2]) [(1,⟨(zz zx yL).map Sn.D,2,false⟩),(2,⟨yH.map Sn.D,2,false⟩)] 3]) (Ai (Ai (show zj [(0,⟨[.agg [I k.lo,I k.hi]],2,true⟩),(1,⟨yL.map Sn.D,2,false⟩)] 256 [1] []=some [1] from (by (simp only [zj,go_sem,List.length_set,Nat.reduceAdd,Nat.reduceEqDiff,Nat.reduceLT,Nat.reduceLeDiff,bI2,zc.idsL,zc.renL,zc.snapAll,z7.idsL,z7.renL,z7.snapAll]) <;> rfl)) (show (lim cfg).inl 69 [.lsl 1 0 yL.length 2 none] [(1,⟨yL.map Sn.D,2,false⟩)] 2=some (.tup [.sl true [] 0 none,I 2],[(1,⟨(zz zx yL).map Sn.D,2,false⟩),(2,⟨yH.map Sn.D,2,false⟩)],3) from zH [.inlS [1] (.tup []) [(1,⟨(zz zx yL).map Sn.D,2,false⟩)] 2,.gloop (zB 1 2 yL) (.exit 0) (sd40116 2 1 3 yH yL),.dec true] (Ai h30 (Ai (zF (q:=zm yL (zz zx yL)) (lp_ranges_gathered_4p1 yL (zz zx yL) (zz zx yL) 0 (List.drop_zero) (Nat.zero_le _) (by simp only [yw,GS.some_l,List.length_set,List.length_append,List.length_cons,List.length_nil] at * <;> first | with_reducible assumption | omega) (by simp only [yw,GS.some_l,List.length_set,List.length_append,List.length_cons,List.length_nil] at * <;> first | with_reducible assumption | omega)) h29) (Ai (gc_of (C:=cfg) (f:=69) (a:=lp69_4) (ks:=[4,10,11,12]) (st:=(zT 1 2 yL)) (st1:=(zB 1 2 yL)) (by kernel_rfl) (by (simp only [zT,zB,go_sem,List.length_set,Nat.reduceAdd,Nat.reduceEqDiff,Nat.reduceLT,Nat.reduceLeDiff,bI2,zc.idsL,zc.renL,zc.snapAll,z7.idsL,z7.renL,z7.snapAll]) <;> rfl)) (Ai (Ai (show zj [(1,⟨yL.map Sn.D,2,false⟩)] 256 [1] []=some [1] from (by (simp only [zj,go_sem,List.length_set,Nat.reduceAdd,Nat.reduceEqDiff,Nat.reduceLT,Nat.reduceLeDiff,bI2,zc.idsL,zc.renL,zc.snapAll,z7.idsL,z7.renL,z7.snapAll]) <;> rfl)) (T_sort 1 2 none yL (by omega))) trivial)))) (by kernel_rfl))) (Ai p1 (Ai h3 (Ai h2 (Ai (zn k 1) (Ai h1 (Ai (zw r (by omega)) trivial))))))) (by kernel_rfl)
      | false =>
       have g30:=of_decide_eq_false h30
       exact po_pureS ((ranges_Over_o1 r k yL)++[.inlS [1] (.tup [.lsl 2 0 yH.length 2 none,I 0]) [(1,⟨(zz zx yL).map Sn.D,2,false⟩),(2,⟨yH.map Sn.D,2,false⟩)] 3]) [(2,.sl false (yH.map Sn.D) 2 none,[2])] (Ai (snap_row (gO:=zt [(0,⟨[.agg [I k.lo,I k.hi]],2,true⟩),(1,⟨(zz zx yL).map Sn.D,2,false⟩),(2,⟨yH.map Sn.D,2,false⟩)]) (o:=2) (len:=yH.length) (cap:=none) (fz:=false) z7 yH (by kernel_rfl) (by omega)) (Ai (Ai (show zj [(0,⟨[.agg [I k.lo,I k.hi]],2,true⟩),(1,⟨yL.map Sn.D,2,false⟩)] 256 [1] []=some [1] from (by (simp only [zj,go_sem,List.length_set,Nat.reduceAdd,Nat.reduceEqDiff,Nat.reduceLT,Nat.reduceLeDiff,bI2,zc.idsL,zc.renL,zc.snapAll,z7.idsL,z7.renL,z7.snapAll]) <;> rfl)) (show (lim cfg).inl 69 [.lsl 1 0 yL.length 2 none] [(1,⟨yL.map Sn.D,2,false⟩)] 2=some (.tup [.lsl 2 0 yH.length 2 none,I 0],[(1,⟨(zz zx yL).map Sn.D,2,false⟩),(2,⟨yH.map Sn.D,2,false⟩)],3) from zH [.inlS [1] (.tup []) [(1,⟨(zz zx yL).map Sn.D,2,false⟩)] 2,.gloop (zB 1 2 yL) (.exit 0) (sd40116 2 1 3 yH yL),.dec false] (Ai h30 (Ai (zF (q:=zm yL (zz zx yL)) (lp_ranges_gathered_4p1 yL (zz zx yL) (zz zx yL) 0 (List.drop_zero) (Nat.zero_le _) (by simp only [yw,GS.some_l,List.length_set,List.length_append,List.length_cons,List.length_nil] at * <;> first | with_reducible assumption | omega) (by simp only [yw,GS.some_l,List.length_set,List.length_append,List.length_cons,List.length_nil] at * <;> first | with_reducible assumption | omega)) h29) (Ai (gc_of (C:=cfg) (f:=69) (a:=lp69_4) (ks:=[4,10,11,12]) (st:=(zT 1 2 yL)) (st1:=(zB 1 2 yL)) (by kernel_rfl) (by (simp only [zT,zB,go_sem,List.length_set,Nat.reduceAdd,Nat.reduceEqDiff,Nat.reduceLT,Nat.reduceLeDiff,bI2,zc.idsL,zc.renL,zc.snapAll,z7.idsL,z7.renL,z7.snapAll]) <;> rfl)) (Ai (Ai (show zj [(1,⟨yL.map Sn.D,2,false⟩)] 256 [1] []=some [1] from (by (simp only [zj,go_sem,List.length_set,Nat.reduceAdd,Nat.reduceEqDiff,Nat.reduceLT,Nat.reduceLeDiff,bI2,zc.idsL,zc.renL,zc.snapAll,z7.idsL,z7.renL,z7.snapAll]) <;> rfl)) (T_sort 1 2 none yL (by omega))) trivial)))) (by kernel_rfl))) (Ai p1 (Ai h3 (Ai h2 (Ai (zn k 1) (Ai h1 (Ai (zw r (by omega)) trivial)))))))) (by kernel_rfl)
     | x1 xu xc yH =>
      try dsimp only
      have hv_h29:=zX yL (zz zx yL) (zz zx yL) 0 (List.drop_zero) (Nat.zero_le _) (by simp only [yw,GS.some_l,List.length_set,List.length_append,List.length_cons,List.length_nil] at * <;> first | with_reducible assumption | omega) (by simp only [yw,GS.some_l,List.length_set,List.length_append,List.length_cons,List.length_nil] at * <;> first | with_reducible assumption | omega)
      rw [h29] at hv_h29
      obtain ⟨w9,hv_h29_1⟩:=hv_h29
      try dsimp only [zu] at w9
      try dsimp only [zu] at hv_h29_1
      exact zo ((ranges_Over_o1 r k yL)++[.inlS [1] (.tup [.sl true [] 0 none,I 2]) [(1,⟨(zz zx yL).map Sn.D,2,false⟩),(2,⟨yH.map Sn.D,2,false⟩),(3,⟨[.agg [I xc.lo,I xc.hi]],2,false⟩)] 4]) (Ai (Ai (show zj [(0,⟨[.agg [I k.lo,I k.hi]],2,true⟩),(1,⟨yL.map Sn.D,2,false⟩)] 256 [1] []=some [1] from (by (simp only [zj,go_sem,List.length_set,Nat.reduceAdd,Nat.reduceEqDiff,Nat.reduceLT,Nat.reduceLeDiff,bI2,zc.idsL,zc.renL,zc.snapAll,z7.idsL,z7.renL,z7.snapAll]) <;> rfl)) (show (lim cfg).inl 69 [.lsl 1 0 yL.length 2 none] [(1,⟨yL.map Sn.D,2,false⟩)] 2=some (.tup [.sl true [] 0 none,I 2],[(1,⟨(zz zx yL).map Sn.D,2,false⟩),(2,⟨yH.map Sn.D,2,false⟩),(3,⟨[.agg [I xc.lo,I xc.hi]],2,false⟩)],4) from zH [.inlS [1] (.tup []) [(1,⟨(zz zx yL).map Sn.D,2,false⟩)] 2,.gloop (zB 1 2 yL) .ret (sd40117 3 1 2 4 xc xu yH yL)] (Ai (zF (q:=zm yL (zz zx yL)) (lp_ranges_gathered_4p1 yL (zz zx yL) (zz zx yL) 0 (List.drop_zero) (Nat.zero_le _) (by simp only [yw,GS.some_l,List.length_set,List.length_append,List.length_cons,List.length_nil] at * <;> first | with_reducible assumption | omega) (by simp only [yw,GS.some_l,List.length_set,List.length_append,List.length_cons,List.length_nil] at * <;> first | with_reducible assumption | omega)) h29) (Ai (gc_of (C:=cfg) (f:=69) (a:=lp69_4) (ks:=[4,10,11,12]) (st:=(zT 1 2 yL)) (st1:=(zB 1 2 yL)) (by kernel_rfl) (by (simp only [zT,zB,go_sem,List.length_set,Nat.reduceAdd,Nat.reduceEqDiff,Nat.reduceLT,Nat.reduceLeDiff,bI2,zc.idsL,zc.renL,zc.snapAll,z7.idsL,z7.renL,z7.snapAll]) <;> rfl)) (Ai (Ai (show zj [(1,⟨yL.map Sn.D,2,false⟩)] 256 [1] []=some [1] from (by (simp only [zj,go_sem,List.length_set,Nat.reduceAdd,Nat.reduceEqDiff,Nat.reduceLT,Nat.reduceLeDiff,bI2,zc.idsL,zc.renL,zc.snapAll,z7.idsL,z7.renL,z7.snapAll]) <;> rfl)) (T_sort 1 2 none yL (by omega))) trivial))) (by kernel_rfl))) (Ai p1 (Ai h3 (Ai h2 (Ai (zn k 1) (Ai h1 (Ai (zw r (by omega)) trivial))))))) (by kernel_rfl)
     | x2 xu xc yH =>
      try dsimp only
      have hv_h29:=zX yL (zz zx yL) (zz zx yL) 0 (List.drop_zero) (Nat.zero_le _) (by simp only [yw,GS.some_l,List.length_set,List.length_append,List.length_cons,List.length_nil] at * <;> first | with_reducible assumption | omega) (by simp only [yw,GS.some_l,List.length_set,List.length_append,List.length_cons,List.length_nil] at * <;> first | with_reducible assumption | omega)
      rw [h29] at hv_h29
      obtain ⟨w9,hv_h29_1⟩:=hv_h29
      try dsimp only [zu] at w9
      try dsimp only [zu] at hv_h29_1
      exact zo ((ranges_Over_o1 r k yL)++[.inlS [1] (.tup [.sl true [] 0 none,I 2]) [(1,⟨(zz zx yL).map Sn.D,2,false⟩),(2,⟨yH.map Sn.D,2,false⟩),(3,⟨[.agg [I xc.lo,I xc.hi]],2,false⟩)] 4]) (Ai (Ai (show zj [(0,⟨[.agg [I k.lo,I k.hi]],2,true⟩),(1,⟨yL.map Sn.D,2,false⟩)] 256 [1] []=some [1] from (by (simp only [zj,go_sem,List.length_set,Nat.reduceAdd,Nat.reduceEqDiff,Nat.reduceLT,Nat.reduceLeDiff,bI2,zc.idsL,zc.renL,zc.snapAll,z7.idsL,z7.renL,z7.snapAll]) <;> rfl)) (show (lim cfg).inl 69 [.lsl 1 0 yL.length 2 none] [(1,⟨yL.map Sn.D,2,false⟩)] 2=some (.tup [.sl true [] 0 none,I 2],[(1,⟨(zz zx yL).map Sn.D,2,false⟩),(2,⟨yH.map Sn.D,2,false⟩),(3,⟨[.agg [I xc.lo,I xc.hi]],2,false⟩)],4) from zH [.inlS [1] (.tup []) [(1,⟨(zz zx yL).map Sn.D,2,false⟩)] 2,.gloop (zB 1 2 yL) .ret (sd40118 3 1 2 4 xc xu yH yL)] (Ai (zF (q:=zm yL (zz zx yL)) (lp_ranges_gathered_4p1 yL (zz zx yL) (zz zx yL) 0 (List.drop_zero) (Nat.zero_le _) (by simp only [yw,GS.some_l,List.length_set,List.length_append,List.length_cons,List.length_nil] at * <;> first | with_reducible assumption | omega) (by simp only [yw,GS.some_l,List.length_set,List.length_append,List.length_cons,List.length_nil] at * <;> first | with_reducible assumption | omega)) h29) (Ai (gc_of (C:=cfg) (f:=69) (a:=lp69_4) (ks:=[4,10,11,12]) (st:=(zT 1 2 yL)) (st1:=(zB 1 2 yL)) (by kernel_rfl) (by (simp only [zT,zB,go_sem,List.length_set,Nat.reduceAdd,Nat.reduceEqDiff,Nat.reduceLT,Nat.reduceLeDiff,bI2,zc.idsL,zc.renL,zc.snapAll,z7.idsL,z7.renL,z7.snapAll]) <;> rfl)) (Ai (Ai (show zj [(1,⟨yL.map Sn.D,2,false⟩)] 256 [1] []=some [1] from (by (simp only [zj,go_sem,List.length_set,Nat.reduceAdd,Nat.reduceEqDiff,Nat.reduceLT,Nat.reduceLeDiff,bI2,zc.idsL,zc.renL,zc.snapAll,z7.idsL,z7.renL,z7.snapAll]) <;> rfl)) (T_sort 1 2 none yL (by omega))) trivial))) (by kernel_rfl))) (Ai p1 (Ai h3 (Ai h2 (Ai (zn k 1) (Ai h1 (Ai (zw r (by omega)) trivial))))))) (by kernel_rfl)
     | x3 =>
      try dsimp only
      exact zo ((ranges_Over_o1 r k yL)++[.inlS [1] (.tup [.sl true [] 0 none,I 0]) [(1,⟨(zz zx yL).map Sn.D,2,false⟩)] 2]) (Ai (Ai (show zj [(0,⟨[.agg [I k.lo,I k.hi]],2,true⟩),(1,⟨yL.map Sn.D,2,false⟩)] 256 [1] []=some [1] from (by (simp only [zj,go_sem,List.length_set,Nat.reduceAdd,Nat.reduceEqDiff,Nat.reduceLT,Nat.reduceLeDiff,bI2,zc.idsL,zc.renL,zc.snapAll,z7.idsL,z7.renL,z7.snapAll]) <;> rfl)) (show (lim cfg).inl 69 [.lsl 1 0 yL.length 2 none] [(1,⟨yL.map Sn.D,2,false⟩)] 2=some (.tup [.sl true [] 0 none,I 0],[(1,⟨(zz zx yL).map Sn.D,2,false⟩)],2) from zH [.inlS [1] (.tup []) [(1,⟨(zz zx yL).map Sn.D,2,false⟩)] 2,.gloop (zB 1 2 yL) (.exit 0) (sd40119 1 2 yL),.dec false] (Ai (Eq.refl false) (Ai (zF (q:=zm yL (zz zx yL)) (lp_ranges_gathered_4p1 yL (zz zx yL) (zz zx yL) 0 (List.drop_zero) (Nat.zero_le _) (by simp only [yw,GS.some_l,List.length_set,List.length_append,List.length_cons,List.length_nil] at * <;> first | with_reducible assumption | omega) (by simp only [yw,GS.some_l,List.length_set,List.length_append,List.length_cons,List.length_nil] at * <;> first | with_reducible assumption | omega)) h29) (Ai (gc_of (C:=cfg) (f:=69) (a:=lp69_4) (ks:=[4,10,11,12]) (st:=(zT 1 2 yL)) (st1:=(zB 1 2 yL)) (by kernel_rfl) (by (simp only [zT,zB,go_sem,List.length_set,Nat.reduceAdd,Nat.reduceEqDiff,Nat.reduceLT,Nat.reduceLeDiff,bI2,zc.idsL,zc.renL,zc.snapAll,z7.idsL,z7.renL,z7.snapAll]) <;> rfl)) (Ai (Ai (show zj [(1,⟨yL.map Sn.D,2,false⟩)] 256 [1] []=some [1] from (by (simp only [zj,go_sem,List.length_set,Nat.reduceAdd,Nat.reduceEqDiff,Nat.reduceLT,Nat.reduceLeDiff,bI2,zc.idsL,zc.renL,zc.snapAll,z7.idsL,z7.renL,z7.snapAll]) <;> rfl)) (T_sort 1 2 none yL (by omega))) trivial)))) (by kernel_rfl))) (Ai p1 (Ai h3 (Ai h2 (Ai (zn k 1) (Ai h1 (Ai (zw r (by omega)) trivial))))))) (by kernel_rfl)
     | x4 xu xc =>
      try dsimp only
      exact zo ((ranges_Over_o1 r k yL)++[.inlS [1] (.tup [.sl true [] 0 none,I 2]) [(1,⟨(zz zx yL).map Sn.D,2,false⟩),(2,⟨[.agg [I xc.lo,I xc.hi]],2,false⟩)] 3]) (Ai (Ai (show zj [(0,⟨[.agg [I k.lo,I k.hi]],2,true⟩),(1,⟨yL.map Sn.D,2,false⟩)] 256 [1] []=some [1] from (by (simp only [zj,go_sem,List.length_set,Nat.reduceAdd,Nat.reduceEqDiff,Nat.reduceLT,Nat.reduceLeDiff,bI2,zc.idsL,zc.renL,zc.snapAll,z7.idsL,z7.renL,z7.snapAll]) <;> rfl)) (show (lim cfg).inl 69 [.lsl 1 0 yL.length 2 none] [(1,⟨yL.map Sn.D,2,false⟩)] 2=some (.tup [.sl true [] 0 none,I 2],[(1,⟨(zz zx yL).map Sn.D,2,false⟩),(2,⟨[.agg [I xc.lo,I xc.hi]],2,false⟩)],3) from zH [.inlS [1] (.tup []) [(1,⟨(zz zx yL).map Sn.D,2,false⟩)] 2,.gloop (zB 1 2 yL) .ret (sd40120 2 1 3 xc xu yL)] (Ai (zF (q:=zm yL (zz zx yL)) (lp_ranges_gathered_4p1 yL (zz zx yL) (zz zx yL) 0 (List.drop_zero) (Nat.zero_le _) (by simp only [yw,GS.some_l,List.length_set,List.length_append,List.length_cons,List.length_nil] at * <;> first | with_reducible assumption | omega) (by simp only [yw,GS.some_l,List.length_set,List.length_append,List.length_cons,List.length_nil] at * <;> first | with_reducible assumption | omega)) h29) (Ai (gc_of (C:=cfg) (f:=69) (a:=lp69_4) (ks:=[4,10,11,12]) (st:=(zT 1 2 yL)) (st1:=(zB 1 2 yL)) (by kernel_rfl) (by (simp only [zT,zB,go_sem,List.length_set,Nat.reduceAdd,Nat.reduceEqDiff,Nat.reduceLT,Nat.reduceLeDiff,bI2,zc.idsL,zc.renL,zc.snapAll,z7.idsL,z7.renL,z7.snapAll]) <;> rfl)) (Ai (Ai (show zj [(1,⟨yL.map Sn.D,2,false⟩)] 256 [1] []=some [1] from (by (simp only [zj,go_sem,List.length_set,Nat.reduceAdd,Nat.reduceEqDiff,Nat.reduceLT,Nat.reduceLeDiff,bI2,zc.idsL,zc.renL,zc.snapAll,z7.idsL,z7.renL,z7.snapAll]) <;> rfl)) (T_sort 1 2 none yL (by omega))) trivial))) (by kernel_rfl))) (Ai p1 (Ai h3 (Ai h2 (Ai (zn k 1) (Ai h1 (Ai (zw r (by omega)) trivial))))))) (by kernel_rfl)
     | x5 xu xc =>
      try dsimp only
      exact zo ((ranges_Over_o1 r k yL)++[.inlS [1] (.tup [.sl true [] 0 none,I 2]) [(1,⟨(zz zx yL).map Sn.D,2,false⟩),(2,⟨[.agg [I xc.lo,I xc.hi]],2,false⟩)] 3]) (Ai (Ai (show zj [(0,⟨[.agg [I k.lo,I k.hi]],2,true⟩),(1,⟨yL.map Sn.D,2,false⟩)] 256 [1] []=some [1] from (by (simp only [zj,go_sem,List.length_set,Nat.reduceAdd,Nat.reduceEqDiff,Nat.reduceLT,Nat.reduceLeDiff,bI2,zc.idsL,zc.renL,zc.snapAll,z7.idsL,z7.renL,z7.snapAll]) <;> rfl)) (show (lim cfg).inl 69 [.lsl 1 0 yL.length 2 none] [(1,⟨yL.map Sn.D,2,false⟩)] 2=some (.tup [.sl true [] 0 none,I 2],[(1,⟨(zz zx yL).map Sn.D,2,false⟩),(2,⟨[.agg [I xc.lo,I xc.hi]],2,false⟩)],3) from zH [.inlS [1] (.tup []) [(1,⟨(zz zx yL).map Sn.D,2,false⟩)] 2,.gloop (zB 1 2 yL) .ret (sd40121 2 1 3 xc xu yL)] (Ai (zF (q:=zm yL (zz zx yL)) (lp_ranges_gathered_4p1 yL (zz zx yL) (zz zx yL) 0 (List.drop_zero) (Nat.zero_le _) (by simp only [yw,GS.some_l,List.length_set,List.length_append,List.length_cons,List.length_nil] at * <;> first | with_reducible assumption | omega) (by simp only [yw,GS.some_l,List.length_set,List.length_append,List.length_cons,List.length_nil] at * <;> first | with_reducible assumption | omega)) h29) (Ai (gc_of (C:=cfg) (f:=69) (a:=lp69_4) (ks:=[4,10,11,12]) (st:=(zT 1 2 yL)) (st1:=(zB 1 2 yL)) (by kernel_rfl) (by (simp only [zT,zB,go_sem,List.length_set,Nat.reduceAdd,Nat.reduceEqDiff,Nat.reduceLT,Nat.reduceLeDiff,bI2,zc.idsL,zc.renL,zc.snapAll,z7.idsL,z7.renL,z7.snapAll]) <;> rfl)) (Ai (Ai (show zj [(1,⟨yL.map Sn.D,2,false⟩)] 256 [1] []=some [1] from (by (simp only [zj,go_sem,List.length_set,Nat.reduceAdd,Nat.reduceEqDiff,Nat.reduceLT,Nat.reduceLeDiff,bI2,zc.idsL,zc.renL,zc.snapAll,z7.idsL,z7.renL,z7.snapAll]) <;> rfl)) (T_sort 1 2 none yL (by omega))) trivial))) (by kernel_rfl))) (Ai p1 (Ai h3 (Ai h2 (Ai (zn k 1) (Ai h1 (Ai (zw r (by omega)) trivial))))))) (by kernel_rfl)
    | x1 yI =>
     try dsimp only
     have xH:=ivt_ranges_each_3p3 r k r.l 0 (List.drop_zero) (Nat.zero_le _) (by omega) (by omega) (by omega) (by omega)
     rw [h28] at xH
     have xF:=xH
     try dsimp only [iv_ranges_each_3p3] at xF
     have p2:=(show (lim cfg).inl 70 [.sl r.nl (r.l.map Sn.D) (zsl r.nl 2) none,.fn (.func 76) [] [.lref 0 0 2 0]] [(0,⟨[.agg [I k.lo,I k.hi]],2,false⟩)] 1=some (.lsl 1 0 yI.length 2 none,[(0,⟨[.agg [I k.lo,I k.hi]],2,false⟩),(1,⟨yI.map Sn.D,2,false⟩)],2) from zH [.rw 9 (I ((r.l.length:Nat):Int)),.loop (.exit 0) (sd40123 0 1 2 yI r k)] (Ai (zF (q:=lr_ranges_each_3p3 r k) (lp_ranges_each_3p3 r k r.l 0 (List.drop_zero) (Nat.zero_le _) (by omega) (by omega) (by omega) (by omega)) h28) (Ai (zW Sn.D r) trivial)) (by kernel_rfl))
     cases h31:zA (zz zx yI) 0 with
     | x0 yH =>
      try dsimp only
      have hv_h31:=zX yI (zz zx yI) (zz zx yI) 0 (List.drop_zero) (Nat.zero_le _) (by simp only [yw,GS.some_l,List.length_set,List.length_append,List.length_cons,List.length_nil] at * <;> first | with_reducible assumption | omega) (by simp only [yw,GS.some_l,List.length_set,List.length_append,List.length_cons,List.length_nil] at * <;> first | with_reducible assumption | omega)
      rw [h31] at hv_h31
      obtain ⟨wa,hv_h31_1⟩:=hv_h31
      try dsimp only [zu] at wa
      try dsimp only [zu] at hv_h31_1
      cases h32:decide (((yH.length:Nat):Int) > 64) with
      | true =>
       have g32:=of_decide_eq_true h32
       exact zo ((ranges_Over_o2 r k yI)++[.inlS [1] (.tup [.sl true [] 0 none,I 2]) [(1,⟨(zz zx yI).map Sn.D,2,false⟩),(2,⟨yH.map Sn.D,2,false⟩)] 3]) (Ai (Ai (show zj [(0,⟨[.agg [I k.lo,I k.hi]],2,false⟩),(1,⟨yI.map Sn.D,2,false⟩)] 256 [1] []=some [1] from (by (simp only [zj,go_sem,List.length_set,Nat.reduceAdd,Nat.reduceEqDiff,Nat.reduceLT,Nat.reduceLeDiff,bI2,zc.idsL,zc.renL,zc.snapAll,z7.idsL,z7.renL,z7.snapAll]) <;> rfl)) (show (lim cfg).inl 69 [.lsl 1 0 yI.length 2 none] [(1,⟨yI.map Sn.D,2,false⟩)] 2=some (.tup [.sl true [] 0 none,I 2],[(1,⟨(zz zx yI).map Sn.D,2,false⟩),(2,⟨yH.map Sn.D,2,false⟩)],3) from zH [.inlS [1] (.tup []) [(1,⟨(zz zx yI).map Sn.D,2,false⟩)] 2,.gloop (zB 1 2 yI) (.exit 0) (sd40116 2 1 3 yH yI),.dec true] (Ai h32 (Ai (zF (q:=zm yI (zz zx yI)) (lp_ranges_gathered_4p1 yI (zz zx yI) (zz zx yI) 0 (List.drop_zero) (Nat.zero_le _) (by simp only [yw,GS.some_l,List.length_set,List.length_append,List.length_cons,List.length_nil] at * <;> first | with_reducible assumption | omega) (by simp only [yw,GS.some_l,List.length_set,List.length_append,List.length_cons,List.length_nil] at * <;> first | with_reducible assumption | omega)) h31) (Ai (gc_of (C:=cfg) (f:=69) (a:=lp69_4) (ks:=[4,10,11,12]) (st:=(zT 1 2 yI)) (st1:=(zB 1 2 yI)) (by kernel_rfl) (by (simp only [zT,zB,go_sem,List.length_set,Nat.reduceAdd,Nat.reduceEqDiff,Nat.reduceLT,Nat.reduceLeDiff,bI2,zc.idsL,zc.renL,zc.snapAll,z7.idsL,z7.renL,z7.snapAll]) <;> rfl)) (Ai (Ai (show zj [(1,⟨yI.map Sn.D,2,false⟩)] 256 [1] []=some [1] from (by (simp only [zj,go_sem,List.length_set,Nat.reduceAdd,Nat.reduceEqDiff,Nat.reduceLT,Nat.reduceLeDiff,bI2,zc.idsL,zc.renL,zc.snapAll,z7.idsL,z7.renL,z7.snapAll]) <;> rfl)) (T_sort 1 2 none yI (by omega))) trivial)))) (by kernel_rfl))) (Ai p2 (Ai h3 (Ai h2 (Ai (zn k 1) (Ai h1 (Ai (zw r (by omega)) trivial))))))) (by kernel_rfl)
      | false =>
       have g32:=of_decide_eq_false h32
       exact po_pureS ((ranges_Over_o2 r k yI)++[.inlS [1] (.tup [.lsl 2 0 yH.length 2 none,I 0]) [(1,⟨(zz zx yI).map Sn.D,2,false⟩),(2,⟨yH.map Sn.D,2,false⟩)] 3]) [(2,.sl false (yH.map Sn.D) 2 none,[2])] (Ai (snap_row (gO:=zt [(0,⟨[.agg [I k.lo,I k.hi]],2,false⟩),(1,⟨(zz zx yI).map Sn.D,2,false⟩),(2,⟨yH.map Sn.D,2,false⟩)]) (o:=2) (len:=yH.length) (cap:=none) (fz:=false) z7 yH (by kernel_rfl) (by omega)) (Ai (Ai (show zj [(0,⟨[.agg [I k.lo,I k.hi]],2,false⟩),(1,⟨yI.map Sn.D,2,false⟩)] 256 [1] []=some [1] from (by (simp only [zj,go_sem,List.length_set,Nat.reduceAdd,Nat.reduceEqDiff,Nat.reduceLT,Nat.reduceLeDiff,bI2,zc.idsL,zc.renL,zc.snapAll,z7.idsL,z7.renL,z7.snapAll]) <;> rfl)) (show (lim cfg).inl 69 [.lsl 1 0 yI.length 2 none] [(1,⟨yI.map Sn.D,2,false⟩)] 2=some (.tup [.lsl 2 0 yH.length 2 none,I 0],[(1,⟨(zz zx yI).map Sn.D,2,false⟩),(2,⟨yH.map Sn.D,2,false⟩)],3) from zH [.inlS [1] (.tup []) [(1,⟨(zz zx yI).map Sn.D,2,false⟩)] 2,.gloop (zB 1 2 yI) (.exit 0) (sd40116 2 1 3 yH yI),.dec false] (Ai h32 (Ai (zF (q:=zm yI (zz zx yI)) (lp_ranges_gathered_4p1 yI (zz zx yI) (zz zx yI) 0 (List.drop_zero) (Nat.zero_le _) (by simp only [yw,GS.some_l,List.length_set,List.length_append,List.length_cons,List.length_nil] at * <;> first | with_reducible assumption | omega) (by simp only [yw,GS.some_l,List.length_set,List.length_append,List.length_cons,List.length_nil] at * <;> first | with_reducible assumption | omega)) h31) (Ai (gc_of (C:=cfg) (f:=69) (a:=lp69_4) (ks:=[4,10,11,12]) (st:=(zT 1 2 yI)) (st1:=(zB 1 2 yI)) (by kernel_rfl) (by (simp only [zT,zB,go_sem,List.length_set,Nat.reduceAdd,Nat.reduceEqDiff,Nat.reduceLT,Nat.reduceLeDiff,bI2,zc.idsL,zc.renL,zc.snapAll,z7.idsL,z7.renL,z7.snapAll]) <;> rfl)) (Ai (Ai (show zj [(1,⟨yI.map Sn.D,2,false⟩)] 256 [1] []=some [1] from (by (simp only [zj,go_sem,List.length_set,Nat.reduceAdd,Nat.reduceEqDiff,Nat.reduceLT,Nat.reduceLeDiff,bI2,zc.idsL,zc.renL,zc.snapAll,z7.idsL,z7.renL,z7.snapAll]) <;> rfl)) (T_sort 1 2 none yI (by omega))) trivial)))) (by kernel_rfl))) (Ai p2 (Ai h3 (Ai h2 (Ai (zn k 1) (Ai h1 (Ai (zw r (by omega)) trivial)))))))) (by kernel_rfl)
     | x1 xu xc yH =>
      try dsimp only
      have hv_h31:=zX yI (zz zx yI) (zz zx yI) 0 (List.drop_zero) (Nat.zero_le _) (by simp only [yw,GS.some_l,List.length_set,List.length_append,List.length_cons,List.length_nil] at * <;> first | with_reducible assumption | omega) (by simp only [yw,GS.some_l,List.length_set,List.length_append,List.length_cons,List.length_nil] at * <;> first | with_reducible assumption | omega)
      rw [h31] at hv_h31
      obtain ⟨wa,hv_h31_1⟩:=hv_h31
      try dsimp only [zu] at wa
      try dsimp only [zu] at hv_h31_1
      exact zo ((ranges_Over_o2 r k yI)++[.inlS [1] (.tup [.sl true [] 0 none,I 2]) [(1,⟨(zz zx yI).map Sn.D,2,false⟩),(2,⟨yH.map Sn.D,2,false⟩),(3,⟨[.agg [I xc.lo,I xc.hi]],2,false⟩)] 4]) (Ai (Ai (show zj [(0,⟨[.agg [I k.lo,I k.hi]],2,false⟩),(1,⟨yI.map Sn.D,2,false⟩)] 256 [1] []=some [1] from (by (simp only [zj,go_sem,List.length_set,Nat.reduceAdd,Nat.reduceEqDiff,Nat.reduceLT,Nat.reduceLeDiff,bI2,zc.idsL,zc.renL,zc.snapAll,z7.idsL,z7.renL,z7.snapAll]) <;> rfl)) (show (lim cfg).inl 69 [.lsl 1 0 yI.length 2 none] [(1,⟨yI.map Sn.D,2,false⟩)] 2=some (.tup [.sl true [] 0 none,I 2],[(1,⟨(zz zx yI).map Sn.D,2,false⟩),(2,⟨yH.map Sn.D,2,false⟩),(3,⟨[.agg [I xc.lo,I xc.hi]],2,false⟩)],4) from zH [.inlS [1] (.tup []) [(1,⟨(zz zx yI).map Sn.D,2,false⟩)] 2,.gloop (zB 1 2 yI) .ret (sd40117 3 1 2 4 xc xu yH yI)] (Ai (zF (q:=zm yI (zz zx yI)) (lp_ranges_gathered_4p1 yI (zz zx yI) (zz zx yI) 0 (List.drop_zero) (Nat.zero_le _) (by simp only [yw,GS.some_l,List.length_set,List.length_append,List.length_cons,List.length_nil] at * <;> first | with_reducible assumption | omega) (by simp only [yw,GS.some_l,List.length_set,List.length_append,List.length_cons,List.length_nil] at * <;> first | with_reducible assumption | omega)) h31) (Ai (gc_of (C:=cfg) (f:=69) (a:=lp69_4) (ks:=[4,10,11,12]) (st:=(zT 1 2 yI)) (st1:=(zB 1 2 yI)) (by kernel_rfl) (by (simp only [zT,zB,go_sem,List.length_set,Nat.reduceAdd,Nat.reduceEqDiff,Nat.reduceLT,Nat.reduceLeDiff,bI2,zc.idsL,zc.renL,zc.snapAll,z7.idsL,z7.renL,z7.snapAll]) <;> rfl)) (Ai (Ai (show zj [(1,⟨yI.map Sn.D,2,false⟩)] 256 [1] []=some [1] from (by (simp only [zj,go_sem,List.length_set,Nat.reduceAdd,Nat.reduceEqDiff,Nat.reduceLT,Nat.reduceLeDiff,bI2,zc.idsL,zc.renL,zc.snapAll,z7.idsL,z7.renL,z7.snapAll]) <;> rfl)) (T_sort 1 2 none yI (by omega))) trivial))) (by kernel_rfl))) (Ai p2 (Ai h3 (Ai h2 (Ai (zn k 1) (Ai h1 (Ai (zw r (by omega)) trivial))))))) (by kernel_rfl)
     | x2 xu xc yH =>
      try dsimp only
      have hv_h31:=zX yI (zz zx yI) (zz zx yI) 0 (List.drop_zero) (Nat.zero_le _) (by simp only [yw,GS.some_l,List.length_set,List.length_append,List.length_cons,List.length_nil] at * <;> first | with_reducible assumption | omega) (by simp only [yw,GS.some_l,List.length_set,List.length_append,List.length_cons,List.length_nil] at * <;> first | with_reducible assumption | omega)
      rw [h31] at hv_h31
      obtain ⟨wa,hv_h31_1⟩:=hv_h31
      try dsimp only [zu] at wa
      try dsimp only [zu] at hv_h31_1
      exact zo ((ranges_Over_o2 r k yI)++[.inlS [1] (.tup [.sl true [] 0 none,I 2]) [(1,⟨(zz zx yI).map Sn.D,2,false⟩),(2,⟨yH.map Sn.D,2,false⟩),(3,⟨[.agg [I xc.lo,I xc.hi]],2,false⟩)] 4]) (Ai (Ai (show zj [(0,⟨[.agg [I k.lo,I k.hi]],2,false⟩),(1,⟨yI.map Sn.D,2,false⟩)] 256 [1] []=some [1] from (by (simp only [zj,go_sem,List.length_set,Nat.reduceAdd,Nat.reduceEqDiff,Nat.reduceLT,Nat.reduceLeDiff,bI2,zc.idsL,zc.renL,zc.snapAll,z7.idsL,z7.renL,z7.snapAll]) <;> rfl)) (show (lim cfg).inl 69 [.lsl 1 0 yI.length 2 none] [(1,⟨yI.map Sn.D,2,false⟩)] 2=some (.tup [.sl true [] 0 none,I 2],[(1,⟨(zz zx yI).map Sn.D,2,false⟩),(2,⟨yH.map Sn.D,2,false⟩),(3,⟨[.agg [I xc.lo,I xc.hi]],2,false⟩)],4) from zH [.inlS [1] (.tup []) [(1,⟨(zz zx yI).map Sn.D,2,false⟩)] 2,.gloop (zB 1 2 yI) .ret (sd40118 3 1 2 4 xc xu yH yI)] (Ai (zF (q:=zm yI (zz zx yI)) (lp_ranges_gathered_4p1 yI (zz zx yI) (zz zx yI) 0 (List.drop_zero) (Nat.zero_le _) (by simp only [yw,GS.some_l,List.length_set,List.length_append,List.length_cons,List.length_nil] at * <;> first | with_reducible assumption | omega) (by simp only [yw,GS.some_l,List.length_set,List.length_append,List.length_cons,List.length_nil] at * <;> first | with_reducible assumption | omega)) h31) (Ai (gc_of (C:=cfg) (f:=69) (a:=lp69_4) (ks:=[4,10,11,12]) (st:=(zT 1 2 yI)) (st1:=(zB 1 2 yI)) (by kernel_rfl) (by (simp only [zT,zB,go_sem,List.length_set,Nat.reduceAdd,Nat.reduceEqDiff,Nat.reduceLT,Nat.reduceLeDiff,bI2,zc.idsL,zc.renL,zc.snapAll,z7.idsL,z7.renL,z7.snapAll]) <;> rfl)) (Ai (Ai (show zj [(1,⟨yI.map Sn.D,2,false⟩)] 256 [1] []=some [1] from (by (simp only [zj,go_sem,List.length_set,Nat.reduceAdd,Nat.reduceEqDiff,Nat.reduceLT,Nat.reduceLeDiff,bI2,zc.idsL,zc.renL,zc.snapAll,z7.idsL,z7.renL,z7.snapAll]) <;> rfl)) (T_sort 1 2 none yI (by omega))) trivial))) (by kernel_rfl))) (Ai p2 (Ai h3 (Ai h2 (Ai (zn k 1) (Ai h1 (Ai (zw r (by omega)) trivial))))))) (by kernel_rfl)
     | x3 =>
      try dsimp only
      exact zo ((ranges_Over_o2 r k yI)++[.inlS [1] (.tup [.sl true [] 0 none,I 0]) [(1,⟨(zz zx yI).map Sn.D,2,false⟩)] 2]) (Ai (Ai (show zj [(0,⟨[.agg [I k.lo,I k.hi]],2,false⟩),(1,⟨yI.map Sn.D,2,false⟩)] 256 [1] []=some [1] from (by (simp only [zj,go_sem,List.length_set,Nat.reduceAdd,Nat.reduceEqDiff,Nat.reduceLT,Nat.reduceLeDiff,bI2,zc.idsL,zc.renL,zc.snapAll,z7.idsL,z7.renL,z7.snapAll]) <;> rfl)) (show (lim cfg).inl 69 [.lsl 1 0 yI.length 2 none] [(1,⟨yI.map Sn.D,2,false⟩)] 2=some (.tup [.sl true [] 0 none,I 0],[(1,⟨(zz zx yI).map Sn.D,2,false⟩)],2) from zH [.inlS [1] (.tup []) [(1,⟨(zz zx yI).map Sn.D,2,false⟩)] 2,.gloop (zB 1 2 yI) (.exit 0) (sd40119 1 2 yI),.dec false] (Ai (Eq.refl false) (Ai (zF (q:=zm yI (zz zx yI)) (lp_ranges_gathered_4p1 yI (zz zx yI) (zz zx yI) 0 (List.drop_zero) (Nat.zero_le _) (by simp only [yw,GS.some_l,List.length_set,List.length_append,List.length_cons,List.length_nil] at * <;> first | with_reducible assumption | omega) (by simp only [yw,GS.some_l,List.length_set,List.length_append,List.length_cons,List.length_nil] at * <;> first | with_reducible assumption | omega)) h31) (Ai (gc_of (C:=cfg) (f:=69) (a:=lp69_4) (ks:=[4,10,11,12]) (st:=(zT 1 2 yI)) (st1:=(zB 1 2 yI)) (by kernel_rfl) (by (simp only [zT,zB,go_sem,List.length_set,Nat.reduceAdd,Nat.reduceEqDiff,Nat.reduceLT,Nat.reduceLeDiff,bI2,zc.idsL,zc.renL,zc.snapAll,z7.idsL,z7.renL,z7.snapAll]) <;> rfl)) (Ai (Ai (show zj [(1,⟨yI.map Sn.D,2,false⟩)] 256 [1] []=some [1] from (by (simp only [zj,go_sem,List.length_set,Nat.reduceAdd,Nat.reduceEqDiff,Nat.reduceLT,Nat.reduceLeDiff,bI2,zc.idsL,zc.renL,zc.snapAll,z7.idsL,z7.renL,z7.snapAll]) <;> rfl)) (T_sort 1 2 none yI (by omega))) trivial)))) (by kernel_rfl))) (Ai p2 (Ai h3 (Ai h2 (Ai (zn k 1) (Ai h1 (Ai (zw r (by omega)) trivial))))))) (by kernel_rfl)
     | x4 xu xc =>
      try dsimp only
      exact zo ((ranges_Over_o2 r k yI)++[.inlS [1] (.tup [.sl true [] 0 none,I 2]) [(1,⟨(zz zx yI).map Sn.D,2,false⟩),(2,⟨[.agg [I xc.lo,I xc.hi]],2,false⟩)] 3]) (Ai (Ai (show zj [(0,⟨[.agg [I k.lo,I k.hi]],2,false⟩),(1,⟨yI.map Sn.D,2,false⟩)] 256 [1] []=some [1] from (by (simp only [zj,go_sem,List.length_set,Nat.reduceAdd,Nat.reduceEqDiff,Nat.reduceLT,Nat.reduceLeDiff,bI2,zc.idsL,zc.renL,zc.snapAll,z7.idsL,z7.renL,z7.snapAll]) <;> rfl)) (show (lim cfg).inl 69 [.lsl 1 0 yI.length 2 none] [(1,⟨yI.map Sn.D,2,false⟩)] 2=some (.tup [.sl true [] 0 none,I 2],[(1,⟨(zz zx yI).map Sn.D,2,false⟩),(2,⟨[.agg [I xc.lo,I xc.hi]],2,false⟩)],3) from zH [.inlS [1] (.tup []) [(1,⟨(zz zx yI).map Sn.D,2,false⟩)] 2,.gloop (zB 1 2 yI) .ret (sd40120 2 1 3 xc xu yI)] (Ai (zF (q:=zm yI (zz zx yI)) (lp_ranges_gathered_4p1 yI (zz zx yI) (zz zx yI) 0 (List.drop_zero) (Nat.zero_le _) (by simp only [yw,GS.some_l,List.length_set,List.length_append,List.length_cons,List.length_nil] at * <;> first | with_reducible assumption | omega) (by simp only [yw,GS.some_l,List.length_set,List.length_append,List.length_cons,List.length_nil] at * <;> first | with_reducible assumption | omega)) h31) (Ai (gc_of (C:=cfg) (f:=69) (a:=lp69_4) (ks:=[4,10,11,12]) (st:=(zT 1 2 yI)) (st1:=(zB 1 2 yI)) (by kernel_rfl) (by (simp only [zT,zB,go_sem,List.length_set,Nat.reduceAdd,Nat.reduceEqDiff,Nat.reduceLT,Nat.reduceLeDiff,bI2,zc.idsL,zc.renL,zc.snapAll,z7.idsL,z7.renL,z7.snapAll]) <;> rfl)) (Ai (Ai (show zj [(1,⟨yI.map Sn.D,2,false⟩)] 256 [1] []=some [1] from (by (simp only [zj,go_sem,List.length_set,Nat.reduceAdd,Nat.reduceEqDiff,Nat.reduceLT,Nat.reduceLeDiff,bI2,zc.idsL,zc.renL,zc.snapAll,z7.idsL,z7.renL,z7.snapAll]) <;> rfl)) (T_sort 1 2 none yI (by omega))) trivial))) (by kernel_rfl))) (Ai p2 (Ai h3 (Ai h2 (Ai (zn k 1) (Ai h1 (Ai (zw r (by omega)) trivial))))))) (by kernel_rfl)
     | x5 xu xc =>
      try dsimp only
      exact zo ((ranges_Over_o2 r k yI)++[.inlS [1] (.tup [.sl true [] 0 none,I 2]) [(1,⟨(zz zx yI).map Sn.D,2,false⟩),(2,⟨[.agg [I xc.lo,I xc.hi]],2,false⟩)] 3]) (Ai (Ai (show zj [(0,⟨[.agg [I k.lo,I k.hi]],2,false⟩),(1,⟨yI.map Sn.D,2,false⟩)] 256 [1] []=some [1] from (by (simp only [zj,go_sem,List.length_set,Nat.reduceAdd,Nat.reduceEqDiff,Nat.reduceLT,Nat.reduceLeDiff,bI2,zc.idsL,zc.renL,zc.snapAll,z7.idsL,z7.renL,z7.snapAll]) <;> rfl)) (show (lim cfg).inl 69 [.lsl 1 0 yI.length 2 none] [(1,⟨yI.map Sn.D,2,false⟩)] 2=some (.tup [.sl true [] 0 none,I 2],[(1,⟨(zz zx yI).map Sn.D,2,false⟩),(2,⟨[.agg [I xc.lo,I xc.hi]],2,false⟩)],3) from zH [.inlS [1] (.tup []) [(1,⟨(zz zx yI).map Sn.D,2,false⟩)] 2,.gloop (zB 1 2 yI) .ret (sd40121 2 1 3 xc xu yI)] (Ai (zF (q:=zm yI (zz zx yI)) (lp_ranges_gathered_4p1 yI (zz zx yI) (zz zx yI) 0 (List.drop_zero) (Nat.zero_le _) (by simp only [yw,GS.some_l,List.length_set,List.length_append,List.length_cons,List.length_nil] at * <;> first | with_reducible assumption | omega) (by simp only [yw,GS.some_l,List.length_set,List.length_append,List.length_cons,List.length_nil] at * <;> first | with_reducible assumption | omega)) h31) (Ai (gc_of (C:=cfg) (f:=69) (a:=lp69_4) (ks:=[4,10,11,12]) (st:=(zT 1 2 yI)) (st1:=(zB 1 2 yI)) (by kernel_rfl) (by (simp only [zT,zB,go_sem,List.length_set,Nat.reduceAdd,Nat.reduceEqDiff,Nat.reduceLT,Nat.reduceLeDiff,bI2,zc.idsL,zc.renL,zc.snapAll,z7.idsL,z7.renL,z7.snapAll]) <;> rfl)) (Ai (Ai (show zj [(1,⟨yI.map Sn.D,2,false⟩)] 256 [1] []=some [1] from (by (simp only [zj,go_sem,List.length_set,Nat.reduceAdd,Nat.reduceEqDiff,Nat.reduceLT,Nat.reduceLeDiff,bI2,zc.idsL,zc.renL,zc.snapAll,z7.idsL,z7.renL,z7.snapAll]) <;> rfl)) (T_sort 1 2 none yI (by omega))) trivial))) (by kernel_rfl))) (Ai p2 (Ai h3 (Ai h2 (Ai (zn k 1) (Ai h1 (Ai (zw r (by omega)) trivial))))))) (by kernel_rfl)
    | x2 =>
     try dsimp only
     exact zo [.pure (I (zv r)),.dec false,.pure (B (zV k 1)),.dec true,.dec false,.inl (.sl true [] 0 none) [(0,⟨[.agg [I k.lo,I k.hi]],2,true⟩)] 1,.inl (.tup [.sl true [] 0 none,I 0]) [] 1] (Ai (show (lim cfg).inl 69 [.sl true [] 0 none] [] 1=some (.tup [.sl true [] 0 none,I 0],[],1) from zH [.inl (.tup []) [] 1,.loop (.exit 0) ⟨65,[(13,B false),(4,.sl true [] 0 none),(10,.sl true [] 0 none),(11,I 0),(12,I 0)],[],1,1⟩,.dec false] (Ai (Eq.refl false) (Ai (show (lim cfg).loop 69 lp69_4 ⟨65,[(4,.sl true [] 0 none),(10,.sl true [] 0 none),(11,I 0),(12,I 0)],[],1,1⟩=some ((.exit 0),⟨65,[(13,B false),(4,.sl true [] 0 none),(10,.sl true [] 0 none),(11,I 0),(12,I 0)],[],1,1⟩) from (zy [.dec false] (Ai (Eq.refl false) trivial) (by kernel_rfl))) (Ai (T_sort_nil 1) trivial))) (by kernel_rfl)) (Ai (show (lim cfg).inl 70 [.sl r.nl (r.l.map Sn.D) (zsl r.nl 2) none,.fn (.func 76) [] [.lref 0 0 2 0]] [(0,⟨[.agg [I k.lo,I k.hi]],2,false⟩)] 1=some (.sl true [] 0 none,[(0,⟨[.agg [I k.lo,I k.hi]],2,true⟩)],1) from zH [.rw 9 (I ((r.l.length:Nat):Int)),.loop (.exit 0) (sd40124 0 1 r k)] (Ai (zF (q:=lr_ranges_each_3p3 r k) (lp_ranges_each_3p3 r k r.l 0 (List.drop_zero) (Nat.zero_le _) (by omega) (by omega) (by omega) (by omega)) h28) (Ai (zW Sn.D r) trivial)) (by kernel_rfl)) (Ai h3 (Ai h2 (Ai (zn k 1) (Ai h1 (Ai (zw r (by omega)) trivial))))))) (by kernel_rfl)
    | x3 =>
     try dsimp only
     exact zo [.pure (I (zv r)),.dec false,.pure (B (zV k 1)),.dec true,.dec false,.inl (.sl true [] 0 none) [(0,⟨[.agg [I k.lo,I k.hi]],2,false⟩)] 1,.inl (.tup [.sl true [] 0 none,I 0]) [] 1] (Ai (show (lim cfg).inl 69 [.sl true [] 0 none] [] 1=some (.tup [.sl true [] 0 none,I 0],[],1) from zH [.inl (.tup []) [] 1,.loop (.exit 0) ⟨65,[(13,B false),(4,.sl true [] 0 none),(10,.sl true [] 0 none),(11,I 0),(12,I 0)],[],1,1⟩,.dec false] (Ai (Eq.refl false) (Ai (show (lim cfg).loop 69 lp69_4 ⟨65,[(4,.sl true [] 0 none),(10,.sl true [] 0 none),(11,I 0),(12,I 0)],[],1,1⟩=some ((.exit 0),⟨65,[(13,B false),(4,.sl true [] 0 none),(10,.sl true [] 0 none),(11,I 0),(12,I 0)],[],1,1⟩) from (zy [.dec false] (Ai (Eq.refl false) trivial) (by kernel_rfl))) (Ai (T_sort_nil 1) trivial))) (by kernel_rfl)) (Ai (show (lim cfg).inl 70 [.sl r.nl (r.l.map Sn.D) (zsl r.nl 2) none,.fn (.func 76) [] [.lref 0 0 2 0]] [(0,⟨[.agg [I k.lo,I k.hi]],2,false⟩)] 1=some (.sl true [] 0 none,[(0,⟨[.agg [I k.lo,I k.hi]],2,false⟩)],1) from zH [.rw 9 (I ((r.l.length:Nat):Int)),.loop (.exit 0) (sd40125 0 1 r k)] (Ai (zF (q:=lr_ranges_each_3p3 r k) (lp_ranges_each_3p3 r k r.l 0 (List.drop_zero) (Nat.zero_le _) (by omega) (by omega) (by omega) (by omega)) h28) (Ai (zW Sn.D r) trivial)) (by kernel_rfl)) (Ai h3 (Ai h2 (Ai (zn k 1) (Ai h1 (Ai (zw r (by omega)) trivial))))))) (by kernel_rfl)
  | false =>
   exact zo [.pure (I (zv r)),.dec false,.pure (B (zV k 1)),.dec false] (Ai h2 (Ai (zn k 1) (Ai h1 (Ai (zw r (by omega)) trivial)))) (by kernel_rfl)
end Go.VS

namespace Go.VS
open Go Go.Proofs
set_option maxHeartbeats 0
set_option linter.unusedSimpArgs false
set_option linter.unusedVariables false
end Go.VS

namespace Go.VS
open Go
set_option maxHeartbeats 0
end Go.VS

namespace Go.VS
open Go Go.Proofs
set_option maxHeartbeats 0
set_option linter.unusedSimpArgs false
set_option linter.unusedVariables false
end Go.VS

namespace Go.VS
open Go
set_option maxHeartbeats 0

theorem ok_bx {l:List Sn} (h:Ok l):∀ x∈l,-1099511627776≤x.lo∧x.lo≤x.hi∧x.hi≤1099511627776:=fun x hx=>by
 have:=cn_mem h.1 hx
 have:=h.2.1 x hx
 omega
theorem flat_congr {α:Type} {f g:α→List Sn}:∀ {l:List α},(∀ x∈l,f x=g x)→l.flatMap f=l.flatMap g
 | [],_=>rfl
 | x::l,h=>by rw [List.flatMap_cons,List.flatMap_cons,h x List.mem_cons_self,flat_congr fun y hy=>h y (List.mem_cons_of_mem _ hy)]
theorem flat_len {α:Type} {f:α→List Sn} {m:Nat}:∀ {l:List α},(∀ x∈l,(f x).length≤m)→(l.flatMap f).length≤m * l.length
 | [],_=>by simp
 | x::l,h=>by
  rw [List.flatMap_cons,List.length_append,List.length_cons,Nat.mul_succ]
  have:=h x List.mem_cons_self
  have:=flat_len fun y hy=>h y (List.mem_cons_of_mem _ hy)
  omega
def tm1 (k:Sn) (s:Sn):List Sn:=(z8 s k).l
theorem ranges_each_3p2c_eq (k:Sn):∀ (l v:List Sn),zP k l v=.x0 (v++l.flatMap (tm1 k))
 | [],v=>by simp [zP]
 | y::l,v=>by
  unfold zP
  rw [emp_app (fun z=>zP k l z),ranges_each_3p2c_eq k l _,List.flatMap_cons,List.append_assoc,Bool.cond_self]; rfl
theorem ranges_each_3p2a_eq (k:Sn):∀ (l v:List Sn),yA k l v=.x0 (v++l.flatMap (tm1 k)) ∨ yA k l v=.x1 (v++l.flatMap (tm1 k))
 | [],v=>by right; simp [yA]
 | y::l,v=>by
  unfold yA
  rw [emp_app (fun z=>yA k l z),emp_app (fun z=>zP k l z),ranges_each_3p2c_eq k l _,List.flatMap_cons,← List.append_assoc]
  cases (z8 y k).nl with
  | false=>exact .inl rfl
  | true=>exact ranges_each_3p2a_eq k l _
theorem ranges_each_3p2b_eq (k:Sn):∀ (l:List Sn),(l.flatMap (tm1 k)=[]∧ranges_each_3p2b k l=.x2) ∨ (l.flatMap (tm1 k) ≠ []∧ranges_each_3p2b k l=.x0 (l.flatMap (tm1 k)))
 | []=>.inl ⟨rfl,rfl⟩
 | y::l=>by
  unfold ranges_each_3p2b
  rw [Bool.cond_self]
  cases h:((z8 y k).l).isEmpty with
  | true =>
   rw [flat_cons_emp (f:=tm1 k) h]
   exact ranges_each_3p2b_eq k l
  | false =>
   right
   simp only [cond_false]
   rw [ranges_each_3p2c_eq,List.flatMap_cons]
   refine ⟨fun z=>?_,rfl⟩
   have h2:(z8 y k).l=[]:=(List.append_eq_nil_iff.1 z).1
   rw [h2] at h; cases h
theorem ranges_each_3p2_eq (k:Sn):∀ (l:List Sn),(l.flatMap (tm1 k)=[]∧(ranges_each_3p2 k l=.x2 ∨ ranges_each_3p2 k l=.x3)) ∨ (l.flatMap (tm1 k) ≠ []∧(ranges_each_3p2 k l=.x0 (l.flatMap (tm1 k)) ∨ ranges_each_3p2 k l=.x1 (l.flatMap (tm1 k))))
 | []=>.inl ⟨rfl,.inr rfl⟩
 | y::l=>by
  unfold ranges_each_3p2
  cases h:((z8 y k).l).isEmpty with
  | true =>
   rw [flat_cons_emp (f:=tm1 k) h]
   cases (z8 y k).nl with
   | true=>exact ranges_each_3p2_eq k l
   | false =>
    rcases ranges_each_3p2b_eq k l with ⟨h1,h2⟩ | ⟨h1,h2⟩
    ·exact .inl ⟨h1,.inl h2⟩
    ·exact .inr ⟨h1,.inl h2⟩
  | false =>
   right
   refine ⟨fun z=>?_,?_⟩
   ·rw [List.flatMap_cons] at z
    have h2:(z8 y k).l=[]:=(List.append_eq_nil_iff.1 z).1
    rw [h2] at h; cases h
   ·rw [List.flatMap_cons]
    cases (z8 y k).nl with
    | true=>exact ranges_each_3p2a_eq k l _
    | false=>exact .inl (ranges_each_3p2c_eq k l _)

def ov1 (k:Sn) (s:Sn):List Sn:=(za s k).l
theorem ranges_each_3p3c_eq (k:Sn):∀ (l v:List Sn),zQ k l v=.x0 (v++l.flatMap (ov1 k))
 | [],v=>by simp [zQ]
 | y::l,v=>by
  unfold zQ
  rw [emp_app (fun z=>zQ k l z),ranges_each_3p3c_eq k l _,List.flatMap_cons,List.append_assoc,Bool.cond_self]; rfl
theorem ranges_each_3p3a_eq (k:Sn):∀ (l v:List Sn),yC k l v=.x0 (v++l.flatMap (ov1 k)) ∨ yC k l v=.x1 (v++l.flatMap (ov1 k))
 | [],v=>by right; simp [yC]
 | y::l,v=>by
  unfold yC
  rw [emp_app (fun z=>yC k l z),emp_app (fun z=>zQ k l z),ranges_each_3p3c_eq k l _,List.flatMap_cons,← List.append_assoc]
  cases (za y k).nl with
  | false=>exact .inl rfl
  | true=>exact ranges_each_3p3a_eq k l _
theorem ranges_each_3p3b_eq (k:Sn):∀ (l:List Sn),(l.flatMap (ov1 k)=[]∧ranges_each_3p3b k l=.x2) ∨ (l.flatMap (ov1 k) ≠ []∧ranges_each_3p3b k l=.x0 (l.flatMap (ov1 k)))
 | []=>.inl ⟨rfl,rfl⟩
 | y::l=>by
  unfold ranges_each_3p3b
  rw [Bool.cond_self]
  cases h:((za y k).l).isEmpty with
  | true =>
   rw [flat_cons_emp (f:=ov1 k) h]
   exact ranges_each_3p3b_eq k l
  | false =>
   right
   simp only [cond_false]
   rw [ranges_each_3p3c_eq,List.flatMap_cons]
   refine ⟨fun z=>?_,rfl⟩
   have h2:(za y k).l=[]:=(List.append_eq_nil_iff.1 z).1
   rw [h2] at h; cases h
theorem ranges_each_3p3_eq (k:Sn):∀ (l:List Sn),(l.flatMap (ov1 k)=[]∧(ranges_each_3p3 k l=.x2 ∨ ranges_each_3p3 k l=.x3)) ∨ (l.flatMap (ov1 k) ≠ []∧(ranges_each_3p3 k l=.x0 (l.flatMap (ov1 k)) ∨ ranges_each_3p3 k l=.x1 (l.flatMap (ov1 k))))
 | []=>.inl ⟨rfl,.inr rfl⟩
 | y::l=>by
  unfold ranges_each_3p3
  cases h:((za y k).l).isEmpty with
  | true =>
   rw [flat_cons_emp (f:=ov1 k) h]
   cases (za y k).nl with
   | true=>exact ranges_each_3p3_eq k l
   | false =>
    rcases ranges_each_3p3b_eq k l with ⟨h1,h2⟩ | ⟨h1,h2⟩
    ·exact .inl ⟨h1,.inl h2⟩
    ·exact .inr ⟨h1,.inl h2⟩
  | false =>
   right
   refine ⟨fun z=>?_,?_⟩
   ·rw [List.flatMap_cons] at z
    have h2:(za y k).l=[]:=(List.append_eq_nil_iff.1 z).1
    rw [h2] at h; cases h
   ·rw [List.flatMap_cons]
    cases (za y k).nl with
    | true=>exact ranges_each_3p3a_eq k l _
    | false=>exact .inl (ranges_each_3p3c_eq k l _)

def negS (y:Sn):Sn:=⟨-y.hi,-y.lo⟩
def timesL (k x:Sn):List Sn:=prodL k x.hi 2049 (max x.lo 0)++(prodL k (-x.lo) 2049 (max (-x.hi) 0)).map negS
theorem prodL_bd (k:Sn) (hk:KOk k) (hi:Int) (hh:hi≤1099511627776):∀ (n:Nat) (x:Int),0≤x→∀ s∈prodL k hi n x,0≤s.lo∧s.lo≤s.hi∧s.hi≤1099511627776000
 | 0,_,_,s,hs=>by cases hs
 | n+1,x,hx,s,hs=>by
  obtain ⟨k1,k2,k3⟩:=hk
  unfold prodL at hs
  split at hs
  ·rename_i hc
   have h1:=Int.mul_le_mul_of_nonneg_left k2 hx
   have h2:=Int.mul_nonneg hx k1
   have h3:=Int.mul_le_mul hc (Int.le_refl k.hi) (by omega) (by omega)
   have h4:=Int.mul_le_mul hh k3 (by omega) (by omega)
   split at hs
   ·rw [List.mem_singleton.1 hs]; simp only; omega
   ·rcases List.mem_cons.1 hs with rfl | hs
    ·simp only; omega
    ·exact prodL_bd k ⟨k1,k2,k3⟩ hi hh n (x+1) (by omega) s hs
  ·cases hs
theorem tm1_eq {k x:Sn} (hk:KOk k) (hx:-1099511627776≤x.lo∧x.lo≤x.hi∧x.hi≤1099511627776):tm1 k x=timesL k x:=by
 unfold tm1 timesL
 rw [times1_eq x k hx hk]
 congr 1
 refine List.map_congr_left fun s hs=>?_
 have:=prodL_bd k hk (-x.lo) (by omega) 2049 (max (-x.hi) 0) (by omega) s hs
 unfold negW negS
 rw [y9 (by omega) (by omega),y9 (by omega) (by omega)]
 congr 1 <;> omega

theorem Times_gr {r:GS Sn} {k:Sn} (hr:Ok r.l) (hk:KOk k):GR (r.l.flatMap (timesL k)) (zb r k):=by
 have hq:r.l.flatMap (tm1 k)=r.l.flatMap (timesL k):=flat_congr fun x hx=>tm1_eq hk (ok_bx hr x hx)
 have hlen:(r.l.flatMap (timesL k)).length≤1099511627776:=by
  rw [← hq]
  have:=flat_len (f:=tm1 k) (m:=4098) (l:=r.l) (fun x hx=>by unfold tm1; exact times1_len x k (ok_bx hr x hx) hk)
  have:=hr.2.2
  omega
 unfold zb
 rw [check_iff.2 hr,const_iff.2 hk]
 simp only [bne_self_eq_false,cond_false,cond_true]
 have e:=ranges_each_3p2_eq k r.l
 rw [hq] at e
 rcases e with ⟨k1,k2 | k2⟩ | ⟨k1,k2 | k2⟩ <;> rw [k2] <;> dsimp only
 ·rw [k1]; exact GR_nil
 ·rw [k1]; exact GR_nil
 ·generalize r.l.flatMap (timesL k)=q at *
  rcases ranges_gathered_4p1_at (l:=q) k1 (by omega) with ⟨g1,g2⟩ | ⟨g1,g2⟩
  ·rw [g2]; exact GR_end g1
  ·refine .inr ⟨.inl g1,?_⟩
   revert g2
   cases zA (zz zx q) 0 <;> intro g2 <;> first | rfl | cases g2
 ·generalize r.l.flatMap (timesL k)=q at *
  rcases ranges_gathered_4p1_at (l:=q) k1 (by omega) with ⟨g1,g2⟩ | ⟨g1,g2⟩
  ·rw [g2]; exact GR_end g1
  ·refine .inr ⟨.inl g1,?_⟩
   revert g2
   cases zA (zz zx q) 0 <;> intro g2 <;> first | rfl | cases g2
def KOv (k:Sn):Prop:=1≤k.lo∧k.lo≤k.hi∧k.hi≤1000∧k.hi - k.lo≤99

theorem Over_gr {r:GS Sn} {k:Sn} (hr:Ok r.l) (hk:KOv k):GR (r.l.flatMap (fun x=>overL x (k.hi+1 - k.lo).toNat k.lo)) (zk r k):=by
 have hq:r.l.flatMap (ov1 k)=r.l.flatMap (fun x=>overL x (k.hi+1 - k.lo).toNat k.lo):=flat_congr fun x hx=>over1_eq (ok_bx hr x hx) hk
 have hlen:(r.l.flatMap (fun x=>overL x (k.hi+1 - k.lo).toNat k.lo)).length≤1099511627776:=by
  rw [← hq]
  have:=flat_len (f:=ov1 k) (m:=100) (l:=r.l) (fun x hx=>by unfold ov1; exact over1_len x k (ok_bx hr x hx) hk)
  have:=hr.2.2
  omega
 unfold zk
 rw [check_iff.2 hr,const_iff.2 ⟨hk.1,hk.2.1,hk.2.2.1⟩]
 simp only [bne_self_eq_false,cond_false,cond_true]
 have hd:decide ((w64 (k.hi - k.lo)) > 99)=false:=by
  obtain ⟨h1,h2,h3,h4⟩:=hk
  rw [y9 (by omega) (by omega)]
  exact decide_eq_false (by omega)
 rw [hd]
 simp only [cond_false]
 have e:=ranges_each_3p3_eq k r.l
 rw [hq] at e
 rcases e with ⟨k1,k2 | k2⟩ | ⟨k1,k2 | k2⟩ <;> rw [k2] <;> dsimp only
 ·rw [k1]; exact GR_nil
 ·rw [k1]; exact GR_nil
 ·generalize r.l.flatMap (fun x=>overL x (k.hi+1 - k.lo).toNat k.lo)=q at *
  rcases ranges_gathered_4p1_at (l:=q) k1 (by omega) with ⟨g1,g2⟩ | ⟨g1,g2⟩
  ·rw [g2]; exact GR_end g1
  ·refine .inr ⟨.inl g1,?_⟩
   revert g2
   cases zA (zz zx q) 0 <;> intro g2 <;> first | rfl | cases g2
 ·generalize r.l.flatMap (fun x=>overL x (k.hi+1 - k.lo).toNat k.lo)=q at *
  rcases ranges_gathered_4p1_at (l:=q) k1 (by omega) with ⟨g1,g2⟩ | ⟨g1,g2⟩
  ·rw [g2]; exact GR_end g1
  ·refine .inr ⟨.inl g1,?_⟩
   revert g2
   cases zA (zz zx q) 0 <;> intro g2 <;> first | rfl | cases g2
end Go.VS

namespace Go.VS
open Go
set_option maxHeartbeats 0
theorem cn_count:∀ {r:List Sn} (_:cn r) (n:Nat) (p q:Nat→Int),(∀ j,j < n→In r (p j))→(∀ j,j+1 < n→¬ In r (q j)∧p j < q j∧q j < p (j+1))→n≤r.length
 | [],_,n,p,q,hp,_=>by
  cases n with
  | zero=>exact Nat.le_refl _
  | succ n=>exact absurd (hp 0 (by omega)) In_nil
 | s::l,h,n,p,q,hp,hq=>by
  cases n with
  | zero=>exact Nat.zero_le _
  | succ n =>
   have mono:∀ j,j+1 < n+1→q 0≤q j∧q 0 < p (j+1):=fun j hj=>by
    induction j with
    | zero=>exact ⟨Int.le_refl _,(hq 0 hj).2.2⟩
    | succ j ih =>
     have i1:=ih (by omega)
     have h1:=hq j (by omega)
     have h2:=hq (j+1) hj
     exact ⟨by omega,by omega⟩
   have hin:∀ j,j < n→In l (p (j+1)):=fun j hj=>by
    have h0:=hp 0 (by omega)
    have h1:=hp (j+1) (by omega)
    have h2:=hq 0 (by omega)
    have h3:=(mono j (by omega)).2
    rcases In_cons.1 h1 with k | k
    ·exfalso
     rcases In_cons.1 h0 with k0 | k0
     ·exact h2.1 (In_cons.2 (.inl ⟨by omega,by omega⟩))
     ·have:=cn_above h k0; omega
    ·exact k
   have:=cn_count h.2.2 n (fun j=>p (j+1)) (fun j=>q (j+1)) hin (fun j hj=>by
    have:=hq (j+1) (by omega)
    refine ⟨fun k=>this.1 (In_cons.2 (.inr k)),this.2.1,this.2.2⟩)
   simp only [List.length_cons]; omega
theorem cn_count' {r:List Sn} (h:cn r) (n:Nat) (p q:Nat→Int) (hp:∀ j,j < n→In r (p j)) (hq:∀ j,j+1 < n→¬ In r (q j)∧q j < p j∧p (j+1) < q j):n≤r.length :=
 cn_count h n (fun j=>p (n - 1 - j)) (fun j=>q (n - 2 - j)) (fun j hj=>hp _ (by omega)) fun j hj=>by
  have:=hq (n - 2 - j) (by omega)
  have e:n - 2 - j+1=n - 1 - j:=by omega
  have e2:n - 1 - (j+1)=n - 2 - j:=by omega
  rw [e] at this
  simp only [e2]
  exact ⟨this.1,this.2.2,this.2.1⟩
end Go.VS

