/- Nothing of a statement is proved in this text alone: it is part 4 of the proof's own tools, an evaluator of the code over deep values, its soundness, and what it makes of this seat's functions. Conditions: none beyond the statement's own. -/
import Derived.Test.YtmdmclbpnkdimaaGreatDoorVsRCDial3
set_option linter.unusedSimpArgs false
set_option linter.unusedVariables false
namespace Go.VS
open Go
set_option maxHeartbeats 0
def mrg:List Sn→List Sn→List Sn
 | [],q=>q
 | p,[]=>p
 | a::p,b::q=>if a.lo≤b.lo then a::mrg p (b::q) else b::mrg (a::p) q
termination_by p q=>p.length+q.length
theorem mrg_nil (p:List Sn):mrg p []=p:=by cases p <;> simp [mrg]
theorem nil_mrg (q:List Sn):mrg [] q=q:=by simp [mrg]
theorem mrg_cons (a b:Sn) (p q:List Sn):mrg (a::p) (b::q)=if a.lo≤b.lo then a::mrg p (b::q) else b::mrg (a::p) q:=by rw [mrg]
theorem mrg_perm:∀ (p q:List Sn),List.Perm (mrg p q) (p++q)
 | [],q=>by rw [nil_mrg]; exact List.Perm.refl _
 | a::p,[]=>by rw [mrg_nil,List.append_nil]
 | a::p,b::q=>by
  rw [mrg_cons]
  split
  ·exact (mrg_perm p (b::q)).cons a
  ·exact ((mrg_perm (a::p) q).cons b).trans (List.perm_middle.symm)
termination_by p q=>p.length+q.length
theorem mrg_srt:∀ (p q:List Sn),srtS p→srtS q→srtS (mrg p q)
 | [],q,_,hq=>by rw [nil_mrg]; exact hq
 | a::p,[],hp,_=>by rw [mrg_nil]; exact hp
 | a::p,b::q,hp,hq=>by
  rw [mrg_cons]
  have ha:=List.pairwise_cons.1 hp
  have hb:=List.pairwise_cons.1 hq
  split
  ·rename_i h
   refine List.pairwise_cons.2 ⟨fun s hs=>?_,mrg_srt p (b::q) ha.2 hq⟩
   rcases List.mem_append.1 ((mrg_perm p (b::q)).mem_iff.1 hs) with k | k
   ·exact ha.1 s k
   ·rcases List.mem_cons.1 k with rfl | k
    ·exact h
    ·have:=hb.1 s k; omega
  ·rename_i h
   refine List.pairwise_cons.2 ⟨fun s hs=>?_,mrg_srt (a::p) q hp hb.2⟩
   rcases List.mem_append.1 ((mrg_perm (a::p) q).mem_iff.1 hs) with k | k
   ·rcases List.mem_cons.1 k with rfl | k
    ·omega
    ·have:=ha.1 s k; omega
   ·exact hb.1 s k
termination_by p q=>p.length+q.length
theorem cn_srt:∀ {l:List Sn},cn l→srtS l
 | [],_=>List.Pairwise.nil
 | s::l,h=>List.pairwise_cons.2 ⟨fun t ht=>by
   have:=h.2.1 t ht
   have:=h.1
   omega,cn_srt h.2.2⟩
def Bd (l:List Sn):Prop:=∀ s∈l,-2305843009213693952≤s.lo∧s.lo≤s.hi∧s.hi≤2305843009213693952
section
variable {β:Type} (F:List Sn→β) {v:List Sn} {c x:Sn}
theorem stp (hc:-2305843009213693952≤c.hi∧c.hi≤2305843009213693952) (hv:v.length≤4611686018427387904) :
  (bif decide ((((v++[c]).length:Nat):Int) > 0) then
   bif decide (x.lo≤(w64 ((((v++[c]).getD ((w64 ((((v++[c]).length:Nat):Int) - 1)).toNat) default).hi)+1))) then
    F ((v++[c]).set ((w64 ((((v++[c]).length:Nat):Int) - 1)).toNat) (⟨((v++[c]).getD ((w64 ((((v++[c]).length:Nat):Int) - 1)).toNat) default).lo,zu (((v++[c]).getD ((w64 ((((v++[c]).length:Nat):Int) - 1)).toNat) default).hi) (x.hi)⟩:Sn))
   else F (v++[c]++[x])
  else F (v++[c]++[x]))=if x.lo≤c.hi+1 then F (v++[⟨c.lo,max c.hi x.hi⟩]) else F (v++[c]++[x]):=by
 have hl:w64 ((((v++[c]).length:Nat):Int) - 1)=((v.length:Nat):Int):=by
  rcases len_last (v:=v) (c:=c) with e | e
  ·exact e
  ·omega
 have hp:decide ((((v++[c]).length:Nat):Int) > 0)=true:=decide_eq_true (by simp only [List.length_append,List.length_cons,List.length_nil]; omega)
 rw [hl,hp,Int.toNat_natCast,getD_last,set_last,y7 (by omega) (by omega),imax_eq]
 by_cases h:x.lo≤c.hi+1
 ·rw [decide_eq_true h,if_pos h]; rfl
 ·rw [decide_eq_false h,if_neg h]; rfl
end
theorem at_drop {p:GS Sn} {i:Nat} {a:Sn} {l:List Sn} (h:p.l.drop i=a::l):GS.at p ((i:Nat):Int)=a:=by
 unfold GS.at
 rw [Int.toNat_natCast,List.getD_eq_getElem?_getD]
 have:p.l[i]?=some a:=by rw [← List.head?_drop,h]; rfl
 rw [this]; rfl
theorem drop_lt {p:List Sn} {i:Nat} {a:Sn} {l:List Sn} (h:p.drop i=a::l):i < p.length∧p.drop (i+1)=l:=by
 constructor
 ·rcases Nat.lt_or_ge i p.length with k | k
  ·exact k
  ·rw [List.drop_of_length_le k] at h; cases h
 ·rw [← List.drop_drop,h]; rfl
theorem bd_drop {l:List Sn} (h:Bd l) {i:Nat} {a:Sn} {r:List Sn} (e:l.drop i=a::r):-2305843009213693952≤a.lo∧a.lo≤a.hi∧a.hi≤2305843009213693952 :=
 h a (List.mem_of_mem_drop (by rw [e]; exact List.mem_cons_self))
section
variable {p q:GS Sn} (hp:p.l.length≤1073741824) (hq:q.l.length≤1073741824) (bp:Bd p.l) (bq:Bd q.l)
include hp hq bp bq
theorem join8a:∀ (n i k:Nat) (v:List Sn) (c:Sn),(p.l.drop i).length+(q.l.drop k).length < n→i≤p.l.length→k≤q.l.length→v.length≤4294967296+i+k→(-2305843009213693952≤c.hi∧c.hi≤2305843009213693952) →
  ∃ i' k',zO p q n (v++[c]) ((i:Nat):Int) ((k:Nat):Int)=.x0 (v++jn c (mrg (p.l.drop i) (q.l.drop k))) i' k'
 | 0,i,k,v,c,h,_,_,_,_=>by omega
 | n+1,i,k,v,c,h,hi,hk,hv,hc=>by
  have stepP:∀ a l,p.l.drop i=a::l→∀ r,jn c (a::r)=(if a.lo≤c.hi+1 then jn ⟨c.lo,max c.hi a.hi⟩ r else c::jn a r):=fun a l _ r=>rfl
  have wi:i < p.l.length→w64 (((i:Nat):Int)+1)=((i+1:Nat):Int):=fun h=>by rw [y7 (by omega) (by omega)]; omega
  have wk:k < q.l.length→w64 (((k:Nat):Int)+1)=((k+1:Nat):Int):=fun h=>by rw [y7 (by omega) (by omega)]; omega
  have takeP:∀ a l,p.l.drop i=a::l→∃ i' k',(if a.lo≤c.hi+1 then zO p q n (v++[⟨c.lo,max c.hi a.hi⟩]) ((i+1:Nat):Int) ((k:Nat):Int) else zO p q n (v++[c]++[a]) ((i+1:Nat):Int) ((k:Nat):Int))=.x0 (v++jn c (a::mrg l (q.l.drop k))) i' k':=fun a l e=>by
   obtain ⟨h1,h2⟩:=drop_lt e
   have hb:=bd_drop bp e
   have hlen:(p.l.drop (i+1)).length+(q.l.drop k).length < n:=by rw [e] at h; rw [h2]; simp only [List.length_cons] at h; omega
   unfold jn
   split
   ·obtain ⟨i',k',e1⟩:=join8a n (i+1) k v ⟨c.lo,max c.hi a.hi⟩ hlen (by omega) hk (by omega) (by simp only; omega)
    rw [h2] at e1
    exact ⟨i',k',e1⟩
   ·obtain ⟨i',k',e1⟩:=join8a n (i+1) k (v++[c]) a hlen (by omega) hk (by simp only [List.length_append,List.length_cons,List.length_nil]; omega) (by omega)
    rw [h2,List.append_assoc] at e1
    exact ⟨i',k',by rw [List.append_assoc] at e1 ⊢; exact e1⟩
  have takeQ:∀ b l,q.l.drop k=b::l→∃ i' k',(if b.lo≤c.hi+1 then zO p q n (v++[⟨c.lo,max c.hi b.hi⟩]) ((i:Nat):Int) ((k+1:Nat):Int) else zO p q n (v++[c]++[b]) ((i:Nat):Int) ((k+1:Nat):Int))=.x0 (v++jn c (b::mrg (p.l.drop i) l)) i' k':=fun b l e=>by
   obtain ⟨h1,h2⟩:=drop_lt e
   have hb:=bd_drop bq e
   have hlen:(p.l.drop i).length+(q.l.drop (k+1)).length < n:=by rw [e] at h; rw [h2]; simp only [List.length_cons] at h; omega
   unfold jn
   split
   ·obtain ⟨i',k',e1⟩:=join8a n i (k+1) v ⟨c.lo,max c.hi b.hi⟩ hlen hi (by omega) (by omega) (by simp only; omega)
    rw [h2] at e1
    exact ⟨i',k',e1⟩
   ·obtain ⟨i',k',e1⟩:=join8a n i (k+1) (v++[c]) b hlen hi (by omega) (by simp only [List.length_append,List.length_cons,List.length_nil]; omega) (by omega)
    rw [h2,List.append_assoc] at e1
    exact ⟨i',k',by rw [List.append_assoc] at e1 ⊢; exact e1⟩
  unfold zO
  have fP:=fun (x:Sn)=>stp (F:=fun z=>zO p q n z (w64 (((i:Nat):Int)+1)) ((k:Nat):Int)) (v:=v) (c:=c) (x:=x) hc (by omega)
  have fQ:=fun (x:Sn)=>stp (F:=fun z=>zO p q n z ((i:Nat):Int) (w64 (((k:Nat):Int)+1))) (v:=v) (c:=c) (x:=x) hc (by omega)
  cases eP:p.l.drop i with
  | nil =>
   have hip:¬ i < p.l.length:=fun h=>by have:=congrArg List.length eP; simp at this; omega
   rw [decide_eq_false (show ¬ ((i:Nat):Int) < ((p.l.length:Nat):Int) by omega),cond_false]
   cases eQ:q.l.drop k with
   | nil =>
    have hkq:¬ k < q.l.length:=fun h=>by have:=congrArg List.length eQ; simp at this; omega
    rw [decide_eq_false (show ¬ ((k:Nat):Int) < ((q.l.length:Nat):Int) by omega),cond_false,mrg_nil]
    exact ⟨_,_,rfl⟩
   | cons b l =>
    obtain ⟨h1,h2⟩:=drop_lt eQ
    have hne:(((k:Nat):Int) == ((q.l.length:Nat):Int))=false:=beq_eq_false_iff_ne.2 (by omega)
    rw [decide_eq_true (show ((k:Nat):Int) < ((q.l.length:Nat):Int) by omega),cond_true,hne,cond_false,at_drop eQ]
    have:=fQ b
    try dsimp only at this
    rw [this,wk h1,nil_mrg]
    have t:=takeQ b l eQ
    rw [eP,nil_mrg] at t
    exact t
  | cons a l =>
   obtain ⟨h1,h2⟩:=drop_lt eP
   rw [decide_eq_true (show ((i:Nat):Int) < ((p.l.length:Nat):Int) by omega),cond_true]
   cases eQ:q.l.drop k with
   | nil =>
    have hkq:¬ k < q.l.length:=fun h=>by have:=congrArg List.length eQ; simp at this; omega
    have he:(((k:Nat):Int) == ((q.l.length:Nat):Int))=true:=by rw [beq_iff_eq]; omega
    rw [he,cond_true,at_drop eP]
    have:=fP a
    try dsimp only at this
    rw [this,wi h1,mrg_nil]
    have t:=takeP a l eP
    rw [eQ,mrg_nil] at t
    exact t
   | cons b l' =>
    obtain ⟨k1,k2⟩:=drop_lt eQ
    have hne:(((k:Nat):Int) == ((q.l.length:Nat):Int))=false:=beq_eq_false_iff_ne.2 (by omega)
    rw [hne,cond_false,at_drop eP,at_drop eQ,mrg_cons]
    by_cases hab:a.lo≤b.lo
    ·rw [decide_eq_true hab,cond_true,if_pos hab]
     have:=fP a
     try dsimp only at this
     rw [this,wi h1]
     have t:=takeP a l eP
     rw [eQ] at t
     exact t
    ·rw [decide_eq_false hab,cond_false,if_neg hab]
     have:=fQ b
     try dsimp only at this
     rw [this,wk k1]
     have t:=takeQ b l' eQ
     rw [eP] at t
     exact t
theorem join8:(mrg p.l q.l=[]∧r_Join_8 p q (p.l.length+q.l.length+1)=.x1) ∨ ∃ i' k',r_Join_8 p q (p.l.length+q.l.length+1)=.x0 (jnL (mrg p.l q.l)) i' k':=by
 unfold r_Join_8
 dsimp only
 have one:∀ (i k:Nat) (c:Sn) (r:List Sn),i+k=1→i≤p.l.length→k≤q.l.length→(-2305843009213693952≤c.lo∧c.lo≤c.hi∧c.hi≤2305843009213693952)→mrg p.l q.l=c::mrg (p.l.drop i) (q.l.drop k)→∃ i' k',zO p q (p.l.length+q.l.length) [c] ((i:Nat):Int) ((k:Nat):Int)=.x0 (jnL (mrg p.l q.l)) i' k':=fun i k c r hs hi hk hc e=>by
  obtain ⟨i',k',e1⟩:=join8a hp hq bp bq (p.l.length+q.l.length) i k [] c (by simp only [List.length_drop]; omega) hi hk (by simp) (by omega)
  exact ⟨i',k',by rw [e]; exact e1⟩
 cases eP:p.l with
 | nil =>
  simp only [List.length_nil,Int.natCast_zero,Int.lt_irrefl,decide_false,cond_false,Nat.zero_add]
  cases eQ:q.l with
  | nil=>exact .inl ⟨by rw [nil_mrg],rfl⟩
  | cons b l =>
   right
   have hb:=bq b (by rw [eQ]; exact List.mem_cons_self)
   have t:=one 0 1 b l rfl (by omega) (by rw [eQ]; simp) hb (by rw [eP,eQ]; simp [nil_mrg])
   rw [eP,eQ] at t
   have e0:GS.at q 0=b:=at_drop (i:=0) (l:=l) (by rw [List.drop_zero,eQ])
   have h1:decide ((0:Int) < (((b::l).length:Nat):Int))=true:=decide_eq_true (by simp only [List.length_cons]; omega)
   have h2:((0:Int) == (((b::l).length:Nat):Int))=false:=beq_eq_false_iff_ne.2 (by simp only [List.length_cons]; omega)
   rw [h1,h2,e0]
   simp only [List.length_nil,Nat.zero_add] at t
   exact t
 | cons a l =>
  right
  have ha:=bp a (by rw [eP]; exact List.mem_cons_self)
  have e0:GS.at p 0=a:=at_drop (i:=0) (l:=l) (by rw [List.drop_zero,eP])
  have h1:decide ((0:Int) < (((a::l).length:Nat):Int))=true:=decide_eq_true (by simp only [List.length_cons]; omega)
  rw [h1,e0,cond_true]
  cases eQ:q.l with
  | nil =>
   have t:=one 1 0 a l rfl (by rw [eP]; simp) (by omega) ha (by rw [eP,eQ]; simp [mrg_nil])
   rw [eP,eQ] at t
   exact t
  | cons b l' =>
   have hb:=bq b (by rw [eQ]; exact List.mem_cons_self)
   have f0:GS.at q 0=b:=at_drop (i:=0) (l:=l') (by rw [List.drop_zero,eQ])
   have h2:((0:Int) == (((b::l').length:Nat):Int))=false:=beq_eq_false_iff_ne.2 (by simp only [List.length_cons]; omega)
   rw [h2,f0,cond_false]
   by_cases hab:a.lo≤b.lo
   ·rw [decide_eq_true hab,cond_true]
    have t:=one 1 0 a l rfl (by rw [eP]; simp) (by omega) ha (by rw [eP,eQ,mrg_cons,if_pos hab]; rfl)
    rw [eP,eQ] at t
    exact t
   ·rw [decide_eq_false hab,cond_false]
    have t:=one 0 1 b l' rfl (by omega) (by rw [eQ]; simp) hb (by rw [eP,eQ,mrg_cons,if_neg hab]; rfl)
    rw [eP,eQ] at t
    exact t
end
theorem jn_len:∀ (l:List Sn) (c:Sn),(jn c l).length≤l.length+1
 | [],c=>Nat.le_refl _
 | x::l,c=>by
  unfold jn
  split
  ·have:=jn_len l ⟨c.lo,max c.hi x.hi⟩; simp only [List.length_cons]; omega
  ·have:=jn_len l x; simp only [List.length_cons]; omega
theorem can_len (l:List Sn):(can zo l).length≤l.length:=by
 have h:=srtG_len gcmp_lo l
 unfold can jnL
 cases e:zq zo l with
 | nil=>simp
 | cons x r=>rw [e] at h; simp only [List.length_cons] at h; have:=jn_len r x; simp only; omega
theorem can_one (s:Sn) (h:s.lo≤s.hi):can zo [s]=[s] :=
 (can_rg gcmp_lo (by intro t ht; rw [List.mem_singleton.1 ht]; exact h)).unique ⟨⟨h,(fun _ h=>by cases h),trivial⟩,fun _=>Iff.rfl⟩
theorem can_bd {l:List Sn} (h:Bd l):Bd (can zo l):=fun s hs=>by
 have hr:=can_rg gcmp_lo (l:=l) fun s hs=>(h s hs).2.1
 have hn:=cn_mem hr.1 hs
 obtain ⟨t,ht,h1,h2⟩:=(hr.2 s.lo).1 ⟨s,hs,Int.le_refl _,hn⟩
 obtain ⟨u,hu,h3,h4⟩:=(hr.2 s.hi).1 ⟨s,hs,hn,Int.le_refl _⟩
 have b1:=h t ht
 have b2:=h u hu
 omega
open Classical in
noncomputable def Jn (l:GS Sn):GS Sn:=if l.l.length≤1073741824∧Bd l.l then (if l.l.length < 2 then l else GS.some (can zo l.l)) else GS.nil
theorem Jn_len (l:GS Sn):(Jn l).l.length≤l.l.length:=by
 unfold Jn
 split
 ·split
  ·exact Nat.le_refl _
  ·exact can_len l.l
 ·simp [GS.nil]
theorem Jn_l {l:GS Sn} (h1:l.l.length≤1073741824) (h2:Bd l.l):(Jn l).l=can zo l.l:=by
 unfold Jn
 rw [if_pos ⟨h1,h2⟩]
 split
 ·rename_i h
  cases e:l.l with
  | nil=>rw [can_nil]
  | cons s r =>
   cases r with
   | nil=>rw [can_one s (h2 s (by rw [e]; exact List.mem_cons_self)).2.1]
   | cons t r=>rw [e] at h; simp only [List.length_cons] at h; omega
 ·rfl
theorem rjoin_eq {l:GS Sn} (h1:l.l.length≤1073741824) (h2:Bd l.l):r_Join Jn l=Jn l:=by
 unfold r_Join
 by_cases h:l.l.length < 2
 ·rw [decide_eq_true (show (((l.l.length:Nat):Int) < 2) by omega),cond_true]
  unfold Jn; rw [if_pos ⟨h1,h2⟩,if_pos h]
 ·rw [decide_eq_false (show ¬ (((l.l.length:Nat):Int) < 2) by omega),cond_false]
  generalize hp:cutG l 0 (l.l.length / 2)=p
  generalize hq:cutG l (l.l.length / 2) l.l.length=q
  have sp:∀ s∈p.l,s∈l.l:=by rw [← hp]; exact cut_sub l _ _
  have sq:∀ s∈q.l,s∈l.l:=by rw [← hq]; exact cut_sub l _ _
  have lp:p.l.length≤1073741824:=by rw [← hp,zV]; omega
  have lq:q.l.length≤1073741824:=by rw [← hq,zV]; omega
  have bp:Bd p.l:=fun s hs=>h2 s (sp s hs)
  have bq:Bd q.l:=fun s hs=>h2 s (sq s hs)
  have ep:=Jn_l lp bp
  have eq:=Jn_l lq bq
  have hsplit:∀ x,In l.l x↔In p.l x ∨ In q.l x:=fun x=>by
   rw [← In_append,← hp,← hq]
   unfold cutG
   rw [GS.some_l,GS.some_l,List.drop_zero,List.take_length,List.take_append_drop]
  have rp:=can_rg gcmp_lo (l:=p.l) fun s hs=>(bp s hs).2.1
  have rq:=can_rg gcmp_lo (l:=q.l) fun s hs=>(bq s hs).2.1
  have rl:=can_rg gcmp_lo (l:=l.l) fun s hs=>(h2 s hs).2.1
  have jp:=Jn_len p
  have jq:=Jn_len q
  have hm:Rg (In l.l) (jnL (mrg (Jn p).l (Jn q).l)):=by
   rw [ep,eq]
   refine (jnL_rg (fun s hs=>?_) (mrg_srt _ _ (cn_srt rp.1) (cn_srt rq.1))).congr fun x=>?_
   ·rcases List.mem_append.1 ((mrg_perm _ _).mem_iff.1 hs) with k | k
    ·exact cn_mem rp.1 k
    ·exact cn_mem rq.1 k
   ·rw [In_perm (mrg_perm _ _),In_append,rp.2,rq.2,hsplit]
  have hcan:=hm.unique rl
  have hne:mrg (Jn p).l (Jn q).l ≠ []:=fun e=>by
   rw [e] at hm
   cases el:l.l with
   | nil=>rw [el] at h; simp at h
   | cons s r =>
    have hs:=(h2 s (by rw [el]; exact List.mem_cons_self)).2.1
    exact In_nil ((hm.2 s.lo).2 ⟨s,by rw [el]; exact List.mem_cons_self,Int.le_refl _,hs⟩)
  rcases join8 (p:=Jn p) (q:=Jn q) (by omega) (by omega) (by rw [ep]; exact can_bd bp) (by rw [eq]; exact can_bd bq) with ⟨e,_⟩ | ⟨i',k',e⟩
  ·exact absurd e hne
  ·rw [e]
   dsimp only
   rw [hcan]
   unfold Jn; rw [if_pos ⟨h1,h2⟩,if_neg h]
end Go.VS

namespace Go.VS
open Go
set_option maxHeartbeats 0
theorem r_Join_len {J:GS Sn→GS Sn} {l:GS Sn} (hl:l.l.length≤1073741824) (hJ:∀ x:GS Sn,(J x).l.length≤x.l.length):(r_Join J l).l.length≤l.l.length:=by
 unfold r_Join
 by_cases h:l.l.length < 2
 ·rw [decide_eq_true (show (((l.l.length:Nat):Int) < 2) by omega),cond_true]; exact Nat.le_refl _
 ·rw [decide_eq_false (show ¬ (((l.l.length:Nat):Int) < 2) by omega),cond_false]
  have j1:=hJ (cutG l 0 (l.l.length / 2))
  have j2:=hJ (cutG l (l.l.length / 2) l.l.length)
  rw [zV] at j1 j2
  generalize J (cutG l 0 (l.l.length / 2))=p at *
  generalize J (cutG l (l.l.length / 2) l.l.length)=q at *
  have ne:=r_Join_ne p q (by omega) (by omega)
  have k:=ivt_r_Join_8 p q _ ne (by omega) (by omega)
  cases hr:r_Join_8 p q (p.l.length+q.l.length+1) with
  | x0 v i k' =>
   rw [hr] at k
   obtain ⟨k1,k2,k3⟩:=k
   simp only [GS.some_l]
   omega
  | x1=>simp [GS.nil]
  | out=>exact absurd hr ne
def JJN:Nat→GS Sn→GS Sn
 | 0,_=>GS.nil
 | n+1,l=>if l.l.length≤1073741824 then r_Join (JJN n) l else GS.nil
theorem JJN_len:∀ (n:Nat) (l:GS Sn),(JJN n l).l.length≤l.l.length
 | 0,l=>by simp [JJN,GS.nil]
 | n+1,l=>by
  unfold JJN
  split
  ·rename_i h; exact r_Join_len h (JJN_len n)
  ·simp [GS.nil]
def JJ (l:GS Sn):GS Sn:=JJN (l.l.length+1) l
theorem JJ_len (l:GS Sn):(JJ l).l.length≤l.l.length:=JJN_len _ l
theorem T_JJN:∀ (n:Nat) (l:GS Sn),l.l.length≤n→l.l.length≤1073741824→(lim cfg).pure 75 [GS.D Sn.D 2 l]=some (GS.D Sn.D 2 (JJN (n+1) l)):=by
 intro n
 induction n with
 | zero =>
  intro l hn h1
  have e:JJN (0+1) l=r_Join (JJN 0) l:=by unfold JJN; rw [if_pos h1]
  rw [e]
  exact T_r_Join (JJN 0) l h1 (fun x hx _=>by omega) (JJN_len 0)
 | succ n ih =>
  intro l hn h1
  have e:JJN (n+1+1) l=r_Join (JJN (n+1)) l:=by unfold JJN; rw [if_pos h1]
  rw [e]
  exact T_r_Join (JJN (n+1)) l h1 (fun x hx _=>ih x (by omega) (by omega)) (JJN_len (n+1))
theorem T_JJ (l:GS Sn) (h1:l.l.length≤1073741824):(lim cfg).pure 75 [GS.D Sn.D 2 l]=some (GS.D Sn.D 2 (JJ l)):=T_JJN _ l (Nat.le_refl _) h1
theorem JJN_eq:∀ (n:Nat) (l:GS Sn),l.l.length≤n→l.l.length≤1073741824→Bd l.l→JJN (n+1) l=Jn l:=by
 intro n
 induction n with
 | zero =>
  intro l hn h1 h2
  unfold JJN
  rw [if_pos h1,← rjoin_eq h1 h2]
  unfold r_Join
  have h:decide (((l.l.length:Nat):Int) < 2)=true:=decide_eq_true (by omega)
  rw [h]; rfl
 | succ n ih =>
  intro l hn h1 h2
  have e:JJN (n+1+1) l=r_Join (JJN (n+1)) l:=by unfold JJN; rw [if_pos h1]
  rw [e,← rjoin_eq h1 h2]
  unfold r_Join
  by_cases h:l.l.length < 2
  ·rw [decide_eq_true (show (((l.l.length:Nat):Int) < 2) by omega)]; rfl
  ·have sp:∀ a b,Bd (cutG l a b).l:=fun a b s hs=>h2 s (cut_sub l _ _ s hs)
   rw [ih (cutG l 0 (l.l.length / 2)) (by rw [zV]; omega) (by rw [zV]; omega) (sp _ _),ih (cutG l (l.l.length / 2) l.l.length) (by rw [zV]; omega) (by rw [zV]; omega) (sp _ _)]
theorem JJ_l {l:GS Sn} (h1:l.l.length≤1073741824) (h2:Bd l.l):(JJ l).l=can zo l.l:=by
 unfold JJ
 rw [JJN_eq _ l (Nat.le_refl _) h1 h2,Jn_l h1 h2]
end Go.VS

namespace Go.VS
open Go Go.Proofs
set_option maxHeartbeats 0
set_option linter.unusedSimpArgs false
set_option linter.unusedVariables false
def zw (l:GS Sn):(GS Sn) × Int :=
 bif decide (((l.l.length:Nat):Int) > 64) then
  (GS.nil,2)
 else
  bif decide (((l.l.length:Nat):Int) > 0) then
   bif decide (((GS.at l 0).lo) < (-1099511627776)) then
    (GS.nil,2)
   else
    bif decide (((GS.at l (w64 (((l.l.length:Nat):Int) - 1))).hi) > 1099511627776) then
     (GS.nil,2)
    else
     (l,0)
  else
   (l,0)

def r_Fit_o1 (l:GS Sn):List Ora:=[.rw 6 (I ((l.l.length:Nat):Int)),.dec false,.dec true,.el (.agg [I ((GS.at l 0).lo),I ((GS.at l 0).hi)]),.dec false,.el (.agg [I ((GS.at l (w64 (((l.l.length:Nat):Int) - 1))).lo),I ((GS.at l (w64 (((l.l.length:Nat):Int) - 1))).hi)])]

theorem T_r_Fit (l:GS Sn):(lim cfg).pure 74 [GS.D Sn.D 2 l]=some (.tup [GS.D Sn.D 2 ((zw l).1),I ((zw l).2)]):=by
 unfold zw
 cases h1:decide (((l.l.length:Nat):Int) > 64) with
 | true =>
  have g1:=of_decide_eq_true h1
  exact zk [.rw 6 (I ((l.l.length:Nat):Int)),.dec true] (Ai h1 (Ai (zj Sn.D l) trivial)) (by kernel_rfl)
 | false =>
  have g1:=of_decide_eq_false h1
  cases h2:decide (((l.l.length:Nat):Int) > 0) with
  | true =>
   have g2:=of_decide_eq_true h2
   have p1:=(el_in (s:=l) (f:=Sn.D) (k:=2) (i:=0) (by omega) (by omega))
   cases h3:decide (((GS.at l 0).lo) < (-1099511627776)) with
   | true =>
    have g3:=of_decide_eq_true h3
    exact zk [.rw 6 (I ((l.l.length:Nat):Int)),.dec false,.dec true,.el (.agg [I ((GS.at l 0).lo),I ((GS.at l 0).hi)]),.dec true] (Ai h3 (Ai p1 (Ai h2 (Ai h1 (Ai (zj Sn.D l) trivial))))) (by kernel_rfl)
   | false =>
    have g3:=of_decide_eq_false h3
    have p2:=(el_in (s:=l) (f:=Sn.D) (k:=2) (i:=w64 (((l.l.length:Nat):Int) - 1)) (by simp only [List.length_append,List.length_cons,List.length_nil,zi] at * <;> omega) (by simp only [List.length_append,List.length_cons,List.length_nil,zi] at * <;> omega))
    cases h4:decide (((GS.at l (w64 (((l.l.length:Nat):Int) - 1))).hi) > 1099511627776) with
    | true =>
     have g4:=of_decide_eq_true h4
     exact zk ((r_Fit_o1 l)++[.dec true]) (Ai h4 (Ai p2 (Ai h3 (Ai p1 (Ai h2 (Ai h1 (Ai (zj Sn.D l) trivial))))))) (by kernel_rfl)
    | false =>
     have g4:=of_decide_eq_false h4
     exact zk ((r_Fit_o1 l)++[.dec false]) (Ai h4 (Ai p2 (Ai h3 (Ai p1 (Ai h2 (Ai h1 (Ai (zj Sn.D l) trivial))))))) (by kernel_rfl)
  | false =>
   have g2:=of_decide_eq_false h2
   exact zk [.rw 6 (I ((l.l.length:Nat):Int)),.dec false,.dec false] (Ai h2 (Ai h1 (Ai (zj Sn.D l) trivial))) (by kernel_rfl)

end Go.VS

namespace Go.VS
open Go Go.Proofs
set_option maxHeartbeats 0
set_option linter.unusedSimpArgs false
set_option linter.unusedVariables false
theorem drop_tl {α:Type} {l rest:List α} {i:Nat} {x:α} (h:l.drop i=x::rest):l.drop i=x::l.drop (i+1):=by
 rw [← List.drop_drop,h]; rfl
theorem valid_len {r:GS Sn} (h:r_Valid r=true):r.l.length≤64:=(valid_iff.1 h).2.2

end Go.VS

namespace Go.VS
open Go
set_option maxHeartbeats 0
set_option linter.unusedSimpArgs false
set_option linter.unusedVariables false

end Go.VS

namespace Go.VS
open Go Go.Proofs
set_option maxHeartbeats 0
set_option linter.unusedSimpArgs false
set_option linter.unusedVariables false
end Go.VS

namespace Go.VS
open Go
set_option maxHeartbeats 0
def Di (m z:Int):Int:=max (z - m) (m - z)
def Nst (m:Int) (S:Int→Prop) (v:Int):Prop:=S v∧∀ z,S z→Di m v≤Di m z∧(Di m z=Di m v→v≤z)
theorem Nst.congr {m:Int} {S T:Int→Prop} {v:Int} (h:Nst m S v) (e:∀ z,S z↔T z):Nst m T v:=⟨(e v).1 h.1,fun z hz=>h.2 z ((e z).2 hz)⟩
end Go.VS

namespace Go.VS
open Go
section
variable {r:GS Sn} (h:r_Valid r=true)
include h
end
end Go.VS

namespace Go.VS
open Go
def takeR (r:GS Sn) (e:Int):GS Sn:=bif (e == 2) then GS.nil else r
def takeL (L:Bool) (e:Int):Bool:=bif (e == 2) then true else L
theorem gr_len {l:List Sn} {res:GS Sn × Int} (h:GR l res):res.1.l.length≤64:=by
 rcases h with ⟨_,h2,h3,_⟩ | ⟨_,h⟩
 ·rw [h3]; exact h2
 ·rw [h]; simp [GS.nil]
def Tk (L:Bool) (S:Int→Prop) (r:GS Sn):Prop:=L=true ∨ (Ok r.l∧Rg S r.l)
theorem Tk.take {L:Bool} {S:Int→Prop} {res:GS Sn × Int} (h:Res S res):Tk (takeL L res.2) S (takeR res.1 res.2):=by
 unfold takeL takeR
 rcases h with ⟨h1,h2,h3⟩ | h
 ·right; rw [h1]; exact ⟨h2,h3⟩
 ·left; rw [h]; rfl
end Go.VS

namespace Go.VS
open Go
set_option maxHeartbeats 0

def ofF (s:Sn):List Sn:=someS s.lo s.hi
end Go.VS

namespace Go.VS
open Go
set_option maxHeartbeats 0
theorem cn_first {c:Sn} {r:List Sn} (h:cn (c::r)):∀ s∈c::r,c.lo≤s.lo:=fun s hs=>by
 rcases List.mem_cons.1 hs with rfl | hs
 ·exact Int.le_refl _
 ·have:=h.1; have:=h.2.1 s hs; omega
theorem cn_last:∀ {l:List Sn} (hn:l ≠ []),cn l→∀ s∈l,s.hi≤(l.getLast hn).hi
 | [s],_,_,t,ht=>by rw [List.mem_singleton.1 ht]; exact Int.le_refl _
 | s::u::r,hn,h,t,ht=>by
  have ih:=cn_last (l:=u::r) (by simp) h.2.2
  rw [List.getLast_cons (by simp)]
  rcases List.mem_cons.1 ht with rfl | ht
  ·have h1:=h.2.1 u List.mem_cons_self
   have h2:=ih u List.mem_cons_self
   have h3:=cn_mem h.2.2 (s:=u) List.mem_cons_self
   omega
  ·exact ih t ht
theorem at_last {l:GS Sn} (hn:l.l ≠ []) (hl:l.l.length≤1073741824):GS.at l (w64 (((l.l.length:Nat):Int) - 1))=l.l.getLast hn:=by
 have hp:=List.length_pos_iff.2 hn
 rw [y7 (by omega) (by omega)]
 have e:((l.l.length:Nat):Int) - 1=((l.l.length - 1:Nat):Int):=by omega
 rw [e]
 unfold GS.at
 rw [Int.toNat_natCast,List.getD_eq_getElem?_getD,List.getElem?_eq_getElem (by omega),List.getLast_eq_getElem]; rfl
theorem fit_of {J:GS Sn} {l:List Sn} (hJ:J.l=can zo l) (hl:∀ s∈l,s.lo≤s.hi) (hb:J.l.length≤1073741824):GR l (zw J):=by
 have hr:=can_rg gcmp_lo hl
 rw [← hJ] at hr
 unfold GR
 rw [← hJ]
 unfold zw
 by_cases h1:64 < J.l.length
 ·rw [decide_eq_true (show ((J.l.length:Nat):Int) > 64 by omega),cond_true]
  exact .inr ⟨.inr h1,rfl⟩
 rw [decide_eq_false (show ¬ ((J.l.length:Nat):Int) > 64 by omega),cond_false]
 by_cases h2:J.l=[]
 ·have hnil:l=[]:=by
   cases l with
   | nil=>rfl
   | cons s r =>
    exfalso
    have:=(hr.2 s.lo).2 ⟨s,List.mem_cons_self,Int.le_refl _,hl s List.mem_cons_self⟩
    rw [h2] at this
    exact In_nil this
  rw [h2,hnil]
  left
  refine ⟨(fun s hs=>by cases hs),by simp,h2,rfl⟩
 have hp:=List.length_pos_iff.2 h2
 rw [decide_eq_true (show ((J.l.length:Nat):Int) > 0 by omega),cond_true,at_last h2 hb]
 have h0:GS.at J 0=J.l.head h2:=by
  unfold GS.at
  show J.l.getD 0 default=_
  rw [List.getD_eq_getElem?_getD,List.getElem?_eq_getElem hp,List.head_eq_getElem]; rfl
 rw [h0]
 have hfst:∀ s∈J.l,(J.l.head h2).lo≤s.lo:=by
  generalize J.l=q at *
  cases q with
  | nil=>exact absurd rfl h2
  | cons s r=>exact cn_first hr.1
 have hlst:=cn_last h2 hr.1
 have mf:=List.head_mem h2
 have ml:=List.getLast_mem h2
 by_cases h3:(J.l.head h2).lo < -1099511627776
 ·rw [decide_eq_true h3,cond_true]
  refine .inr ⟨.inl fun h=>?_,rfl⟩
  obtain ⟨s,hs,k1,k2⟩:=(hr.2 _).1 ⟨_,mf,Int.le_refl _,cn_mem hr.1 mf⟩
  have:=(h s hs).1
  unfold Ar at this
  omega
 rw [decide_eq_false h3,cond_false]
 by_cases h4:(J.l.getLast h2).hi > 1099511627776
 ·rw [decide_eq_true h4,cond_true]
  refine .inr ⟨.inl fun h=>?_,rfl⟩
  obtain ⟨s,hs,k1,k2⟩:=(hr.2 _).1 ⟨_,ml,cn_mem hr.1 ml,Int.le_refl _⟩
  have:=(h s hs).2
  unfold Ar at this
  omega
 rw [decide_eq_false h4,cond_false]
 refine .inl ⟨fun s hs=>?_,by omega,rfl,rfl⟩
 have hn:=hl s hs
 obtain ⟨t,ht,k1,k2⟩:=(hr.2 s.lo).2 ⟨s,hs,Int.le_refl _,hn⟩
 obtain ⟨u,hu,k3,k4⟩:=(hr.2 s.hi).2 ⟨s,hs,hn,Int.le_refl _⟩
 have b1:=hfst t ht
 have b2:=hlst u hu
 unfold Ar
 omega
theorem bd_ne {l:List Sn} (h:Bd l):∀ s∈l,s.lo≤s.hi:=fun s hs=>(h s hs).2.1
theorem fit_gr {l:GS Sn} (h1:l.l.length≤1073741824) (h2:Bd l.l):GR l.l (zw (JJ l)) :=
 fit_of (JJ_l h1 h2) (bd_ne h2) (by have:=JJ_len l; omega)
theorem GR.det {l l':List Sn} {r r':GS Sn × Int} (h:GR l r) (h':GR l' r') (hl:∀ s∈l,s.lo≤s.hi) (hl':∀ s∈l',s.lo≤s.hi) (hi:∀ x,In l x↔In l' x):r.2=r'.2∧r.1.l=r'.1.l:=by
 have hc:can zo l=can zo l':=((can_rg gcmp_lo hl).congr hi).unique (can_rg gcmp_lo hl')
 have ar:∀ {p q:List Sn},(∀ s∈q,s.lo≤s.hi)→(∀ x,In p x↔In q x)→ArL p→ArL q:=fun {p q} hq hi hp s hs=>by
  obtain ⟨t,ht,k1,k2⟩:=(hi s.lo).2 ⟨s,hs,Int.le_refl _,hq s hs⟩
  obtain ⟨u,hu,k3,k4⟩:=(hi s.hi).2 ⟨s,hs,hq s hs,Int.le_refl _⟩
  have b1:=hp t ht
  have b2:=hp u hu
  unfold Ar at *
  omega
 have ha:ArL l↔ArL l':=⟨ar hl' hi,ar hl fun x=>(hi x).symm⟩
 unfold GR at h h'
 rw [← hc,← ha] at h'
 rcases h with ⟨h1,h2,h3,h4⟩ | ⟨h1,h2⟩ <;> rcases h' with ⟨k1,k2,k3,k4⟩ | ⟨k1,k2⟩
 ·exact ⟨h4.trans k4.symm,h3.trans k3.symm⟩
 ·exfalso
  rcases k1 with k1 | k1
  ·exact k1 h1
  ·omega
 ·exfalso
  rcases h1 with h1 | h1
  ·exact h1 k1
  ·omega
 ·rw [h2,k2]; exact ⟨rfl,rfl⟩
theorem nil_gr:GR [] (zw (JJ GS.nil)):=fit_gr (l:=GS.nil) (by simp [GS.nil]) (fun s hs=>by cases hs)
end Go.VS

namespace Go.VS
open Go Go.Proofs
set_option maxHeartbeats 0
set_option linter.unusedSimpArgs false
set_option linter.unusedVariables false
def l_same (a:GS Sn) (e:Int) (b:GS Sn) (f:Int):Bool :=
 bif (e == f) then
  bif (r_Same a b) then
   true
  else
   false
 else
  false

theorem T_l_same (a:GS Sn) (e:Int) (b:GS Sn) (f:Int) (hL_a:a.l.length≤9223372036854775807):(lim cfg).pure 21 [GS.D Sn.D 2 a,I e,GS.D Sn.D 2 b,I f]=some (B (l_same a e b f)):=by
 unfold l_same
 cases h1:(e == f) with
 | true =>
  have g1:=eq_of_beq h1
  cases h2:(r_Same a b) with
  | true =>
   exact zk [.dec true,.pure (B (r_Same a b)),.dec true] (Ai h2 (Ai (T_r_Same a b (by first | assumption | omega | (exact two_bd (by omega) (by omega)) | (exact add_some (by omega)) | (exact add_some' (by omega)) | (exact one_some (by omega)) | (exact one_some' (by omega)) | (exact outside_len _ (by omega)) | (exact Nat.le_trans (hJl _) (by rw [zV]; omega)) | (exact drop_tl (by assumption)) | (simp only [zi] at * <;> omega) | (simp only [zY,zV,GS.some_l,List.length_set,List.length_append,List.length_cons,List.length_nil] at * <;> first | with_reducible assumption | omega) | (simp only [zY,zV,GS.some_l,List.length_set,List.length_append,List.length_cons,List.length_nil,zi] at * <;> first | with_reducible assumption | omega) | (simp at * <;> omega))) (Ai h1 trivial))) (by kernel_rfl)
  | false =>
   exact zk [.dec true,.pure (B (r_Same a b)),.dec false] (Ai h2 (Ai (T_r_Same a b (by first | assumption | omega | (exact two_bd (by omega) (by omega)) | (exact add_some (by omega)) | (exact add_some' (by omega)) | (exact one_some (by omega)) | (exact one_some' (by omega)) | (exact outside_len _ (by omega)) | (exact Nat.le_trans (hJl _) (by rw [zV]; omega)) | (exact drop_tl (by assumption)) | (simp only [zi] at * <;> omega) | (simp only [zY,zV,GS.some_l,List.length_set,List.length_append,List.length_cons,List.length_nil] at * <;> first | with_reducible assumption | omega) | (simp only [zY,zV,GS.some_l,List.length_set,List.length_append,List.length_cons,List.length_nil,zi] at * <;> first | with_reducible assumption | omega) | (simp at * <;> omega))) (Ai h1 trivial))) (by kernel_rfl)
 | false =>
  have g1:=ne_of_beq_false h1
  exact zk [.dec false] (Ai h1 trivial) (by kernel_rfl)
end Go.VS

namespace Go.VS
open Go
set_option maxHeartbeats 0
section
variable (x:Sn)
end
end Go.VS

namespace Go.VS
open Go
set_option maxHeartbeats 0
theorem same_of {x y:GS Sn × Int} (h:x.2=y.2∧x.1.l=y.1.l):l_same x.1 x.2 y.1 y.2=true:=by
 unfold l_same
 rw [h.1,beq_self_eq_true,same_refl h.2]; rfl
theorem same_eq {x y:GS Sn × Int} (h:x=y):l_same x.1 x.2 y.1 y.2=true:=same_of (by rw [h]; exact ⟨rfl,rfl⟩)
theorem short_nil:(GS.nil:GS Sn).l.length≤9223372036854775807:=by simp [GS.nil]
end Go.VS

namespace Go.VS
open Go Go.Proofs
set_option maxHeartbeats 0
set_option linter.unusedSimpArgs false
set_option linter.unusedVariables false
theorem quo_op {C:Cfg} {t:TypeId} {cst:Bool} {nxt:Nat} {a b:Int} (h:b ≠ 0):justO nxt (binD C t cst .quo (I a) (I b))=Option.some ⟨I (w64 (a.tdiv b)),[],[],nxt⟩:=by
 simp [binD,binVal,binInt,intOp,justO,h]

def za (a:Int) (b:Int):Int :=
 bif decide ((a.tmod b) < 0) then
  w64 ((w64 (a.tdiv b)) - 1)
 else
  w64 (a.tdiv b)

theorem T_ranges_down (a:Int) (b:Int) (hb:b ≠ 0):(lim cfg).pure 78 [I a,I b]=some (I (za a b)):=by
 unfold za
 cases h1:decide ((a.tmod b) < 0) with
 | true =>
  have g1:=of_decide_eq_true h1
  exact zk [.op (some 8) ⟨I (w64 (a.tdiv b)),[],[],0⟩,.op (some 11) ⟨I (a.tmod b),[],[],0⟩,.dec true] (Ai h1 (Ai (rem_op (C:=cfg) (t:=3) (cst:=false) (nxt:=0) (a:=a) (b:=b) (by omega)) (Ai (quo_op (C:=cfg) (t:=3) (cst:=false) (nxt:=0) (a:=a) (b:=b) (by omega)) trivial))) (by kernel_rfl)
 | false =>
  have g1:=of_decide_eq_false h1
  exact zk [.op (some 8) ⟨I (w64 (a.tdiv b)),[],[],0⟩,.op (some 11) ⟨I (a.tmod b),[],[],0⟩,.dec false] (Ai h1 (Ai (rem_op (C:=cfg) (t:=3) (cst:=false) (nxt:=0) (a:=a) (b:=b) (by omega)) (Ai (quo_op (C:=cfg) (t:=3) (cst:=false) (nxt:=0) (a:=a) (b:=b) (by omega)) trivial))) (by kernel_rfl)

inductive LR_ranges_products_3 where
 | x0 (yH:List Sn) (xy:Int)
 | x1 (yH:List Sn) (xy:Int)
 | x2 (yH:List Sn) (xy:Int)
 | x3
 | x4
 | out
instance:Inhabited LR_ranges_products_3:=⟨.out⟩
def ranges_products_3a (x:Sn) (k:Sn) (q3_0:Int):Nat→(List Sn)→Int→LR_ranges_products_3
 | 0,_,_=>.out
 | xk+1,yH,xy =>
  bif decide (xy≤x.hi) then
   bif decide ((w64 (xy * (w64 (k.hi - k.lo)))) ≥ (w64 (k.lo - 1))) then
    .x0 yH xy
   else
    bif decide ((((yH++[(⟨w64 (xy * k.lo),w64 (xy * k.hi)⟩:Sn)]).length:Nat):Int) > 2048) then
     .x1 yH xy
    else
     ranges_products_3a x k q3_0 xk (yH++[(⟨w64 (xy * k.lo),w64 (xy * k.hi)⟩:Sn)]) (w64 (xy+1))
  else
   .x2 yH xy
def ranges_products_3 (x:Sn) (k:Sn) (q3_0:Int):Nat→LR_ranges_products_3
 | 0=>.out
 | xk+1 =>
  bif decide (q3_0≤x.hi) then
   bif decide ((w64 (q3_0 * (w64 (k.hi - k.lo)))) ≥ (w64 (k.lo - 1))) then
    .x3
   else
    ranges_products_3a x k q3_0 xk [(⟨w64 (q3_0 * k.lo),w64 (q3_0 * k.hi)⟩:Sn)] (w64 (q3_0+1))
  else
   .x4
inductive LR_ranges_products_3p1 where
 | x0 (xt:List Sn) (xh:Int)
 | x1 (xt:List Sn) (xh:Int)
 | x2 (xt:List Sn) (xh:Int)
 | x3
 | x4
 | out
instance:Inhabited LR_ranges_products_3p1:=⟨.out⟩
def ranges_products_3p1a (k:Sn) (q3p1_0:Int) (q3p1_1:Int):Nat→(List Sn)→Int→LR_ranges_products_3p1
 | 0,_,_=>.out
 | rest3p1+1,xt,xh =>
  bif decide (xh≤q3p1_0) then
   bif decide ((w64 (xh * (w64 (k.hi - k.lo)))) ≥ (w64 (k.lo - 1))) then
    .x0 xt xh
   else
    bif decide ((((xt++[(⟨w64 (xh * k.lo),w64 (xh * k.hi)⟩:Sn)]).length:Nat):Int) > 2048) then
     .x1 xt xh
    else
     ranges_products_3p1a k q3p1_0 q3p1_1 rest3p1 (xt++[(⟨w64 (xh * k.lo),w64 (xh * k.hi)⟩:Sn)]) (w64 (xh+1))
  else
   .x2 xt xh
def ranges_products_3p1 (k:Sn) (q3p1_0:Int) (q3p1_1:Int):Nat→LR_ranges_products_3p1
 | 0=>.out
 | rest3p1+1 =>
  bif decide (q3p1_1≤q3p1_0) then
   bif decide ((w64 (q3p1_1 * (w64 (k.hi - k.lo)))) ≥ (w64 (k.lo - 1))) then
    .x3
   else
    ranges_products_3p1a k q3p1_0 q3p1_1 rest3p1 [(⟨w64 (q3p1_1 * k.lo),w64 (q3p1_1 * k.hi)⟩:Sn)] (w64 (q3p1_1+1))
  else
   .x4
inductive LR_ranges_Times_1_3 where
 | x0 (xm:List Sn)
instance:Inhabited LR_ranges_Times_1_3:=⟨.x0 default⟩
def ranges_Times_1_3:List Sn→(List Sn)→LR_ranges_Times_1_3
 | [],xm=>.x0 xm
 | x3::xk,xm =>
  ranges_Times_1_3 xk (xm++[(⟨w64 (0 - x3.hi),w64 (0 - x3.lo)⟩:Sn)])
inductive LR_ranges_products_3p2 where
 | x0 (xi:List Sn) (xu:Int)
 | x1 (xi:List Sn) (xu:Int)
 | x2 (xi:List Sn) (xu:Int)
 | x3
 | x4
 | out
instance:Inhabited LR_ranges_products_3p2:=⟨.out⟩
def ranges_products_3p2a (k:Sn) (q3p2_0:Int) (q3p2_1:Int):Nat→(List Sn)→Int→LR_ranges_products_3p2
 | 0,_,_=>.out
 | rest3p2+1,xi,xu =>
  bif decide (xu≤q3p2_0) then
   bif decide ((w64 (xu * (w64 (k.hi - k.lo)))) ≥ (w64 (k.lo - 1))) then
    .x0 xi xu
   else
    bif decide ((((xi++[(⟨w64 (xu * k.lo),w64 (xu * k.hi)⟩:Sn)]).length:Nat):Int) > 2048) then
     .x1 xi xu
    else
     ranges_products_3p2a k q3p2_0 q3p2_1 rest3p2 (xi++[(⟨w64 (xu * k.lo),w64 (xu * k.hi)⟩:Sn)]) (w64 (xu+1))
  else
   .x2 xi xu
def ranges_products_3p2 (k:Sn) (q3p2_0:Int) (q3p2_1:Int):Nat→LR_ranges_products_3p2
 | 0=>.out
 | rest3p2+1 =>
  bif decide (q3p2_1≤q3p2_0) then
   bif decide ((w64 (q3p2_1 * (w64 (k.hi - k.lo)))) ≥ (w64 (k.lo - 1))) then
    .x3
   else
    ranges_products_3p2a k q3p2_0 q3p2_1 rest3p2 [(⟨w64 (q3p2_1 * k.lo),w64 (q3p2_1 * k.hi)⟩:Sn)] (w64 (q3p2_1+1))
  else
   .x4
inductive LR_ranges_products_3p3 where
 | x0 (xB:List Sn) (xv:Int)
 | x1 (xB:List Sn) (xv:Int)
 | x2 (xB:List Sn) (xv:Int)
 | x3
 | x4
 | out
instance:Inhabited LR_ranges_products_3p3:=⟨.out⟩
def ranges_products_3p3a (k:Sn) (q3p3_0:Int) (q3p3_1:Int):Nat→(List Sn)→Int→LR_ranges_products_3p3
 | 0,_,_=>.out
 | rest3p3+1,xB,xv =>
  bif decide (xv≤q3p3_0) then
   bif decide ((w64 (xv * (w64 (k.hi - k.lo)))) ≥ (w64 (k.lo - 1))) then
    .x0 xB xv
   else
    bif decide ((((xB++[(⟨w64 (xv * k.lo),w64 (xv * k.hi)⟩:Sn)]).length:Nat):Int) > 2048) then
     .x1 xB xv
    else
     ranges_products_3p3a k q3p3_0 q3p3_1 rest3p3 (xB++[(⟨w64 (xv * k.lo),w64 (xv * k.hi)⟩:Sn)]) (w64 (xv+1))
  else
   .x2 xB xv
def ranges_products_3p3 (k:Sn) (q3p3_0:Int) (q3p3_1:Int):Nat→LR_ranges_products_3p3
 | 0=>.out
 | rest3p3+1 =>
  bif decide (q3p3_1≤q3p3_0) then
   bif decide ((w64 (q3p3_1 * (w64 (k.hi - k.lo)))) ≥ (w64 (k.lo - 1))) then
    .x3
   else
    ranges_products_3p3a k q3p3_0 q3p3_1 rest3p3 [(⟨w64 (q3p3_1 * k.lo),w64 (q3p3_1 * k.hi)⟩:Sn)] (w64 (q3p3_1+1))
  else
   .x4
inductive LR_ranges_Times_1_3p1 where
 | x0 (v3p1_0:List Sn)
instance:Inhabited LR_ranges_Times_1_3p1:=⟨.x0 default⟩
def ranges_Times_1_3p1:List Sn→(List Sn)→LR_ranges_Times_1_3p1
 | [],v3p1_0=>.x0 v3p1_0
 | x3p1::rest3p1,v3p1_0 =>
  ranges_Times_1_3p1 rest3p1 (v3p1_0++[(⟨w64 (0 - x3p1.hi),w64 (0 - x3p1.lo)⟩:Sn)])
inductive LR_ranges_products_3p4 where
 | x0 (yq:List Sn) (xw:Int)
 | x1 (yq:List Sn) (xw:Int)
 | x2 (yq:List Sn) (xw:Int)
 | x3
 | x4
 | out
instance:Inhabited LR_ranges_products_3p4:=⟨.out⟩
def ranges_products_3p4a (k:Sn) (q3p4_0:Int) (q3p4_1:Int):Nat→(List Sn)→Int→LR_ranges_products_3p4
 | 0,_,_=>.out
 | yL+1,yq,xw =>
  bif decide (xw≤q3p4_0) then
   bif decide ((w64 (xw * (w64 (k.hi - k.lo)))) ≥ (w64 (k.lo - 1))) then
    .x0 yq xw
   else
    bif decide ((((yq++[(⟨w64 (xw * k.lo),w64 (xw * k.hi)⟩:Sn)]).length:Nat):Int) > 2048) then
     .x1 yq xw
    else
     ranges_products_3p4a k q3p4_0 q3p4_1 yL (yq++[(⟨w64 (xw * k.lo),w64 (xw * k.hi)⟩:Sn)]) (w64 (xw+1))
  else
   .x2 yq xw
def ranges_products_3p4 (k:Sn) (q3p4_0:Int) (q3p4_1:Int):Nat→LR_ranges_products_3p4
 | 0=>.out
 | yL+1 =>
  bif decide (q3p4_1≤q3p4_0) then
   bif decide ((w64 (q3p4_1 * (w64 (k.hi - k.lo)))) ≥ (w64 (k.lo - 1))) then
    .x3
   else
    ranges_products_3p4a k q3p4_0 q3p4_1 yL [(⟨w64 (q3p4_1 * k.lo),w64 (q3p4_1 * k.hi)⟩:Sn)] (w64 (q3p4_1+1))
  else
   .x4
inductive LR_ranges_Times_1_3p2 where
 | x0 (xi:List Sn)
 | x1
instance:Inhabited LR_ranges_Times_1_3p2:=⟨.x0 default⟩
def ranges_Times_1_3p2a:List Sn→(List Sn)→LR_ranges_Times_1_3p2
 | [],xi=>.x0 xi
 | x3p2::rest3p2,xi =>
  ranges_Times_1_3p2a rest3p2 (xi++[(⟨w64 (0 - x3p2.hi),w64 (0 - x3p2.lo)⟩:Sn)])
def ranges_Times_1_3p2:List Sn→LR_ranges_Times_1_3p2
 | []=>.x1
 | x3p2::rest3p2 =>
  ranges_Times_1_3p2a rest3p2 [(⟨w64 (0 - x3p2.hi),w64 (0 - x3p2.lo)⟩:Sn)]
def ranges_Times_1 (x:Sn) (k:Sn):(GS Sn) :=
 match ranges_products_3 x k (zu x.lo 0) 2051 with
 | .x0 yH xy =>
  match ranges_products_3p1 k (w64 (0 - x.lo)) (zu (w64 (0 - x.hi)) 0) 2051 with
  | .x0 xt xh =>
   match ranges_Times_1_3 (xt++[(⟨w64 (xh * k.lo),w64 ((w64 (0 - x.lo)) * k.hi)⟩:Sn)]) (yH++[(⟨w64 (xy * k.lo),w64 (x.hi * k.hi)⟩:Sn)]) with
   | .x0 xm =>
    GS.some xm
  | .x1 xt xh =>
   match ranges_Times_1_3 (xt++[(⟨w64 (xh * k.lo),w64 (xh * k.hi)⟩:Sn)]) (yH++[(⟨w64 (xy * k.lo),w64 (x.hi * k.hi)⟩:Sn)]) with
   | .x0 xm =>
    GS.some xm
  | .x2 xt xh =>
   match ranges_Times_1_3 xt (yH++[(⟨w64 (xy * k.lo),w64 (x.hi * k.hi)⟩:Sn)]) with
   | .x0 xm =>
    GS.some xm
  | .x3 =>
   GS.some ((yH++[(⟨w64 (xy * k.lo),w64 (x.hi * k.hi)⟩:Sn)])++[(⟨w64 (0 - (w64 ((w64 (0 - x.lo)) * k.hi))),w64 (0 - (w64 ((zu (w64 (0 - x.hi)) 0) * k.lo)))⟩:Sn)])
  | .x4 =>
   GS.some (yH++[(⟨w64 (xy * k.lo),w64 (x.hi * k.hi)⟩:Sn)])
  | .out =>
   default
 | .x1 yH xy =>
  match ranges_products_3p1 k (w64 (0 - x.lo)) (zu (w64 (0 - x.hi)) 0) 2051 with
  | .x0 xt xh =>
   match ranges_Times_1_3 (xt++[(⟨w64 (xh * k.lo),w64 ((w64 (0 - x.lo)) * k.hi)⟩:Sn)]) (yH++[(⟨w64 (xy * k.lo),w64 (xy * k.hi)⟩:Sn)]) with
   | .x0 xm =>
    GS.some xm
  | .x1 xt xh =>
   match ranges_Times_1_3 (xt++[(⟨w64 (xh * k.lo),w64 (xh * k.hi)⟩:Sn)]) (yH++[(⟨w64 (xy * k.lo),w64 (xy * k.hi)⟩:Sn)]) with
   | .x0 xm =>
    GS.some xm
  | .x2 xt xh =>
   match ranges_Times_1_3 xt (yH++[(⟨w64 (xy * k.lo),w64 (xy * k.hi)⟩:Sn)]) with
   | .x0 xm =>
    GS.some xm
  | .x3 =>
   GS.some ((yH++[(⟨w64 (xy * k.lo),w64 (xy * k.hi)⟩:Sn)])++[(⟨w64 (0 - (w64 ((w64 (0 - x.lo)) * k.hi))),w64 (0 - (w64 ((zu (w64 (0 - x.hi)) 0) * k.lo)))⟩:Sn)])
  | .x4 =>
   GS.some (yH++[(⟨w64 (xy * k.lo),w64 (xy * k.hi)⟩:Sn)])
  | .out =>
   default
 | .x2 yH xy =>
  match ranges_products_3p2 k (w64 (0 - x.lo)) (zu (w64 (0 - x.hi)) 0) 2051 with
  | .x0 xi xu =>
   match ranges_Times_1_3 (xi++[(⟨w64 (xu * k.lo),w64 ((w64 (0 - x.lo)) * k.hi)⟩:Sn)]) yH with
   | .x0 xm =>
    GS.some xm
  | .x1 xi xu =>
   match ranges_Times_1_3 (xi++[(⟨w64 (xu * k.lo),w64 (xu * k.hi)⟩:Sn)]) yH with
   | .x0 xm =>
    GS.some xm
  | .x2 xi xu =>
   match ranges_Times_1_3 xi yH with
   | .x0 xm =>
    GS.some xm
  | .x3 =>
   GS.some (yH++[(⟨w64 (0 - (w64 ((w64 (0 - x.lo)) * k.hi))),w64 (0 - (w64 ((zu (w64 (0 - x.hi)) 0) * k.lo)))⟩:Sn)])
  | .x4 =>
   GS.some yH
  | .out =>
   default
 | .x3 =>
  match ranges_products_3p3 k (w64 (0 - x.lo)) (zu (w64 (0 - x.hi)) 0) 2051 with
  | .x0 xB xv =>
   match ranges_Times_1_3p1 (xB++[(⟨w64 (xv * k.lo),w64 ((w64 (0 - x.lo)) * k.hi)⟩:Sn)]) [(⟨(w64 ((zu x.lo 0) * k.lo)),(w64 (x.hi * k.hi))⟩:Sn)] with
   | .x0 v3p1_0 =>
    GS.some v3p1_0
  | .x1 xB xv =>
   match ranges_Times_1_3p1 (xB++[(⟨w64 (xv * k.lo),w64 (xv * k.hi)⟩:Sn)]) [(⟨(w64 ((zu x.lo 0) * k.lo)),(w64 (x.hi * k.hi))⟩:Sn)] with
   | .x0 v3p1_0 =>
    GS.some v3p1_0
  | .x2 xB xv =>
   match ranges_Times_1_3p1 xB [(⟨(w64 ((zu x.lo 0) * k.lo)),(w64 (x.hi * k.hi))⟩:Sn)] with
   | .x0 v3p1_0 =>
    GS.some v3p1_0
  | .x3 =>
   GS.some [(⟨w64 ((zu x.lo 0) * k.lo),w64 (x.hi * k.hi)⟩:Sn),(⟨w64 (0 - (w64 ((w64 (0 - x.lo)) * k.hi))),w64 (0 - (w64 ((zu (w64 (0 - x.hi)) 0) * k.lo)))⟩:Sn)]
  | .x4 =>
   GS.some [(⟨w64 ((zu x.lo 0) * k.lo),w64 (x.hi * k.hi)⟩:Sn)]
  | .out =>
   default
 | .x4 =>
  match ranges_products_3p4 k (w64 (0 - x.lo)) (zu (w64 (0 - x.hi)) 0) 2051 with
  | .x0 yq xw =>
   match ranges_Times_1_3p2 (yq++[(⟨w64 (xw * k.lo),w64 ((w64 (0 - x.lo)) * k.hi)⟩:Sn)]) with
   | .x0 xi =>
    GS.some xi
   | .x1 =>
    GS.nil
  | .x1 yq xw =>
   match ranges_Times_1_3p2 (yq++[(⟨w64 (xw * k.lo),w64 (xw * k.hi)⟩:Sn)]) with
   | .x0 xi =>
    GS.some xi
   | .x1 =>
    GS.nil
  | .x2 yq xw =>
   match ranges_Times_1_3p2 yq with
   | .x0 xi =>
    GS.some xi
   | .x1 =>
    GS.nil
  | .x3 =>
   GS.some [(⟨w64 (0 - (w64 ((w64 (0 - x.lo)) * k.hi))),w64 (0 - (w64 ((zu (w64 (0 - x.hi)) 0) * k.lo)))⟩:Sn)]
  | .x4 =>
   GS.nil
  | .out =>
   default
 | .out =>
  default

end Go.VS

namespace Go.VS
open Go
set_option maxHeartbeats 0
end Go.VS

namespace Go.VS
open Go Go.Proofs
set_option maxHeartbeats 0
set_option linter.unusedSimpArgs false
set_option linter.unusedVariables false
theorem chk1 {r:GS Sn} (h:zC r=0):r.l.length≤64∧∀ x∈r.l,-1099511627776≤x.lo∧x.lo≤x.hi∧x.hi≤1099511627776:=by
 have k:=check_iff.1 h
 refine ⟨k.2.2,fun x hx=>?_⟩
 have:=k.2.1 x hx
 have:=cn_mem k.1 hx
 omega

def zt (ν0 ν1:Nat) (μ0:List Sn):St:=⟨65,[(4,.sl true [] 0 none),(10,.lsl ν0 0 μ0.length 2 none),(11,I ((μ0.length:Nat):Int)),(12,I 0)],[(ν0,⟨(zq zo μ0).map Sn.D,2,false⟩)],ν1,ν1⟩

def sd40116 (ν0 ν1 ν2:Nat) (μ0:List Sn) (μ1:List Sn):St:=⟨65,[(13,B false),(4,.lsl ν0 0 μ0.length 2 none),(10,.lsl ν1 0 μ1.length 2 none),(11,I ((μ1.length:Nat):Int)),(12,I (((zq zo μ1).length:Nat):Int))],[(ν1,⟨(zq zo μ1).map Sn.D,2,false⟩),(ν0,⟨μ0.map Sn.D,2,false⟩)],ν2,ν0⟩

def zK (ν0 ν1:Nat) (μ0:List Sn):St:=⟨65,[(12,I 0),(11,I ((μ0.length:Nat):Int)),(10,.lsl ν0 0 μ0.length 2 none),(4,.sl true [] 0 none),(9,.tup []),(8,.lsl ν0 0 μ0.length 2 none),(3,I 0),(2,.sl true [] 0 none),(0,.lsl ν0 0 μ0.length 2 none)],[(ν0,⟨(zq zo μ0).map Sn.D,2,false⟩)],ν1,ν1⟩

def sd40117 (ν0 ν1 ν2 ν3:Nat) (μ0:Sn) (μ1:Nat) (μ2:List Sn) (μ3:List Sn):St:=⟨65,[(3,I 2),(2,.sl true [] 0 none),(25,B true),(24,B true),(23,B false),(22,I μ0.hi),(21,.lref ν0 0 2 1),(20,B false),(19,B false),(18,B true),(17,I μ0.lo),(16,.lref ν0 0 2 0),(6,.lref ν0 0 2 0),(15,.agg [I μ0.lo,I μ0.hi]),(14,.lref ν1 μ1 2 0),(13,B true),(4,.lsl ν2 0 μ2.length 2 none),(10,.lsl ν1 0 μ3.length 2 none),(11,I ((μ3.length:Nat):Int)),(12,I ((μ1:Nat):Int))],[(ν1,⟨(zq zo μ3).map Sn.D,2,false⟩),(ν2,⟨μ2.map Sn.D,2,false⟩),(ν0,⟨[.agg [I μ0.lo,I μ0.hi]],2,false⟩)],ν3,ν2⟩

def sd40118 (ν0 ν1 ν2 ν3:Nat) (μ0:Sn) (μ1:Nat) (μ2:List Sn) (μ3:List Sn):St:=⟨65,[(3,I 2),(2,.sl true [] 0 none),(25,B true),(24,.tup []),(23,.tup []),(22,.tup []),(21,.tup []),(20,B true),(19,B true),(18,B false),(17,I μ0.lo),(16,.lref ν0 0 2 0),(6,.lref ν0 0 2 0),(15,.agg [I μ0.lo,I μ0.hi]),(14,.lref ν1 μ1 2 0),(13,B true),(4,.lsl ν2 0 μ2.length 2 none),(10,.lsl ν1 0 μ3.length 2 none),(11,I ((μ3.length:Nat):Int)),(12,I ((μ1:Nat):Int))],[(ν1,⟨(zq zo μ3).map Sn.D,2,false⟩),(ν2,⟨μ2.map Sn.D,2,false⟩),(ν0,⟨[.agg [I μ0.lo,I μ0.hi]],2,false⟩)],ν3,ν2⟩

def sd40119 (ν0 ν1:Nat) (μ0:List Sn):St:=⟨65,[(13,B false),(4,.sl true [] 0 none),(10,.lsl ν0 0 μ0.length 2 none),(11,I ((μ0.length:Nat):Int)),(12,I (((zq zo μ0).length:Nat):Int))],[(ν0,⟨(zq zo μ0).map Sn.D,2,false⟩)],ν1,ν1⟩

def sd40120 (ν0 ν1 ν2:Nat) (μ0:Sn) (μ1:Nat) (μ2:List Sn):St:=⟨65,[(3,I 2),(2,.sl true [] 0 none),(25,B true),(24,B true),(23,B false),(22,I μ0.hi),(21,.lref ν0 0 2 1),(20,B false),(19,B false),(18,B true),(17,I μ0.lo),(16,.lref ν0 0 2 0),(6,.lref ν0 0 2 0),(15,.agg [I μ0.lo,I μ0.hi]),(14,.lref ν1 μ1 2 0),(13,B true),(4,.sl true [] 0 none),(10,.lsl ν1 0 μ2.length 2 none),(11,I ((μ2.length:Nat):Int)),(12,I ((μ1:Nat):Int))],[(ν1,⟨(zq zo μ2).map Sn.D,2,false⟩),(ν0,⟨[.agg [I μ0.lo,I μ0.hi]],2,false⟩)],ν2,ν0⟩

def sd40121 (ν0 ν1 ν2:Nat) (μ0:Sn) (μ1:Nat) (μ2:List Sn):St:=⟨65,[(3,I 2),(2,.sl true [] 0 none),(25,B true),(24,.tup []),(23,.tup []),(22,.tup []),(21,.tup []),(20,B true),(19,B true),(18,B false),(17,I μ0.lo),(16,.lref ν0 0 2 0),(6,.lref ν0 0 2 0),(15,.agg [I μ0.lo,I μ0.hi]),(14,.lref ν1 μ1 2 0),(13,B true),(4,.sl true [] 0 none),(10,.lsl ν1 0 μ2.length 2 none),(11,I ((μ2.length:Nat):Int)),(12,I ((μ1:Nat):Int))],[(ν1,⟨(zq zo μ2).map Sn.D,2,false⟩),(ν0,⟨[.agg [I μ0.lo,I μ0.hi]],2,false⟩)],ν2,ν0⟩

end Go.VS

namespace Go.VS
open Go Go.Proofs
set_option maxHeartbeats 0
set_option linter.unusedSimpArgs false
set_option linter.unusedVariables false
def z7 (x:Sn) (n:Int):(GS Sn) :=
 bif decide ((w64 ((w64 ((w64 ((w64 (x.lo - (w64 (n * (za x.lo n)))))+x.hi)) - x.lo)) - (w64 (x.lo - (w64 (n * (za x.lo n))))))) ≥ (w64 (n - 1))) then
  (zd 0 (w64 (n - 1)))
 else
  bif decide ((w64 ((w64 ((w64 (x.lo - (w64 (n * (za x.lo n)))))+x.hi)) - x.lo)) < n) then
   (zd (w64 (x.lo - (w64 (n * (za x.lo n))))) (w64 ((w64 ((w64 (x.lo - (w64 (n * (za x.lo n)))))+x.hi)) - x.lo)))
  else
   GS.some [(⟨w64 (x.lo - (w64 (n * (za x.lo n)))),w64 (n - 1)⟩:Sn),(⟨0,w64 ((w64 ((w64 ((w64 (x.lo - (w64 (n * (za x.lo n)))))+x.hi)) - x.lo)) - n)⟩:Sn)]

theorem y6 (x:Sn) (n:Int) (hx:-1099511627776≤x.lo∧x.lo≤x.hi∧x.hi≤1099511627776) (hn:1≤n∧n≤10000):(lim cfg).pure 106 [Sn.D x,.ptr (I n)]=some (GS.D Sn.D 2 (z7 x n)):=by
 unfold z7
 cases h1:decide ((w64 ((w64 ((w64 ((w64 (x.lo - (w64 (n * (za x.lo n)))))+x.hi)) - x.lo)) - (w64 (x.lo - (w64 (n * (za x.lo n))))))) ≥ (w64 (n - 1))) with
 | true =>
  have g1:=of_decide_eq_true h1
  exact zk [.pure (I (za x.lo n)),.dec true,.pure (.sl ((zd 0 (w64 (n - 1))).nl) (((zd 0 (w64 (n - 1))).l).map Sn.D) (zsl ((zd 0 (w64 (n - 1))).nl) 2) none)] (Ai (T_ranges_some 0 (w64 (n - 1))) (Ai h1 (Ai (T_ranges_down x.lo n (by omega)) trivial))) (by kernel_rfl)
 | false =>
  have g1:=of_decide_eq_false h1
  cases h2:decide ((w64 ((w64 ((w64 (x.lo - (w64 (n * (za x.lo n)))))+x.hi)) - x.lo)) < n) with
  | true =>
   have g2:=of_decide_eq_true h2
   exact zk [.pure (I (za x.lo n)),.dec false,.dec true,.pure (.sl ((zd (w64 (x.lo - (w64 (n * (za x.lo n))))) (w64 ((w64 ((w64 (x.lo - (w64 (n * (za x.lo n)))))+x.hi)) - x.lo))).nl) (((zd (w64 (x.lo - (w64 (n * (za x.lo n))))) (w64 ((w64 ((w64 (x.lo - (w64 (n * (za x.lo n)))))+x.hi)) - x.lo))).l).map Sn.D) (zsl ((zd (w64 (x.lo - (w64 (n * (za x.lo n))))) (w64 ((w64 ((w64 (x.lo - (w64 (n * (za x.lo n)))))+x.hi)) - x.lo))).nl) 2) none)] (Ai (T_ranges_some (w64 (x.lo - (w64 (n * (za x.lo n))))) (w64 ((w64 ((w64 (x.lo - (w64 (n * (za x.lo n)))))+x.hi)) - x.lo))) (Ai h2 (Ai h1 (Ai (T_ranges_down x.lo n (by omega)) trivial)))) (by kernel_rfl)
  | false =>
   have g2:=of_decide_eq_false h2
   exact zk [.pure (I (za x.lo n)),.dec false,.dec false] (Ai h2 (Ai h1 (Ai (T_ranges_down x.lo n (by omega)) trivial))) (by kernel_rfl)
end Go.VS

namespace Go.VS
open Go Go.Proofs
set_option maxHeartbeats 0
set_option linter.unusedSimpArgs false
set_option linter.unusedVariables false
end Go.VS

namespace Go.VS
open Go
set_option maxHeartbeats 0
theorem down_eq {a b:Int} (hb:1≤b) (ha:-4398046511104≤a∧a≤4398046511104):za a b=a / b:=by
 have e:=Int.mul_tdiv_add_tmod a b
 have e1:=Int.tmod_lt_of_pos a (show 0 < b by omega)
 have e2:-b < a.tmod b:=by
  have:=Int.tmod_lt_of_pos (-a) (show 0 < b by omega)
  rw [Int.neg_tmod] at this
  omega
 have hq:-4398046511104≤a.tdiv b∧a.tdiv b≤4398046511104:=by
  have h1:(a.tdiv b).natAbs≤a.natAbs:=by
   rw [Int.natAbs_tdiv]; exact Nat.div_le_self _ _
  omega
 unfold za
 rw [y7 (n:=a.tdiv b) (by omega) (by omega)]
 by_cases h:a.tmod b < 0
 ·rw [decide_eq_true h,cond_true,y7 (by omega) (by omega)]
  have k:a.tmod b+b+b * (a.tdiv b - 1)=a∧0≤a.tmod b+b∧a.tmod b+b < b:=⟨by rw [Int.mul_sub]; omega,by omega,by omega⟩
  exact (((Int.ediv_emod_unique (show 0 < b by omega)).2 k).1).symm
 ·rw [decide_eq_false h,cond_false]
  have k:a.tmod b+b * a.tdiv b=a∧0≤a.tmod b∧a.tmod b < b:=⟨by omega,by omega,e1⟩
  exact (((Int.ediv_emod_unique (show 0 < b by omega)).2 k).1).symm
theorem ediv_bd {a b:Int} (hb:1≤b) (ha:-1099511627776≤a∧a≤1099511627776):-1099511627776≤a / b∧a / b≤1099511627776:=by
 have e:b * (a / b)+a % b=a:=Int.mul_ediv_add_emod a b
 have e1:=Int.emod_nonneg a (show b ≠ 0 by omega)
 have e2:=Int.emod_lt_of_pos a (show 0 < b by omega)
 generalize a / b=q at *
 generalize a % b=r at *
 constructor
 ·refine Classical.byContradiction fun h=>?_
  have:=Int.mul_le_mul_of_nonneg_left (show q≤-1099511627777 by omega) (show 0≤b by omega)
  omega
 ·refine Classical.byContradiction fun h=>?_
  have:=Int.mul_le_mul_of_nonneg_left (show 1099511627777≤q by omega) (show 0≤b by omega)
  omega
end Go.VS

namespace Go.VS
open Go
set_option maxHeartbeats 0
theorem rests1_len (x:Sn) (n:Int):(z7 x n).l.length≤2:=by
 unfold z7
 simp only [Bool.cond_eq_ite]
 repeat' split
 ·exact Nat.le_trans (some1 _ _) (by decide)
 ·exact Nat.le_trans (some1 _ _) (by decide)
 ·simp [GS.some_l]
def restS (x:Sn) (n:Int):List Sn :=
 if n - 1≤x.hi - x.lo then [⟨0,n - 1⟩] else if x.lo % n+(x.hi - x.lo) < n then [⟨x.lo % n,x.lo % n+(x.hi - x.lo)⟩] else [⟨x.lo % n,n - 1⟩,⟨0,x.lo % n+(x.hi - x.lo) - n⟩]
theorem rests1_eq {x:Sn} {n:Int} (hx:-1099511627776≤x.lo∧x.lo≤x.hi∧x.hi≤1099511627776) (hn:1≤n∧n≤10000):(z7 x n).l=restS x n:=by
 have e:n * (x.lo / n)+x.lo % n=x.lo:=Int.mul_ediv_add_emod _ _
 have e1:=Int.emod_nonneg x.lo (show n ≠ 0 by omega)
 have e2:=Int.emod_lt_of_pos x.lo (show 0 < n by omega)
 unfold z7 restS
 rw [down_eq hn.1 (by omega)]
 generalize n * (x.lo / n)=q at *
 generalize x.lo % n=r at *
 rw [y7 (n:=q) (by omega) (by omega),y7 (n:=x.lo - q) (by omega) (by omega),show x.lo - q=r by omega,y7 (n:=r+x.hi) (by omega) (by omega),y7 (n:=r+x.hi - x.lo) (by omega) (by omega),
  y7 (n:=r+x.hi - x.lo - r) (by omega) (by omega),y7 (n:=n - 1) (by omega) (by omega),show r+x.hi - x.lo - r=x.hi - x.lo by omega,show r+x.hi - x.lo=r+(x.hi - x.lo) by omega]
 by_cases h1:n - 1≤x.hi - x.lo
 ·rw [decide_eq_true (show x.hi - x.lo ≥ n - 1 from h1),if_pos h1,cond_true,some_l]
  unfold someS; rw [if_neg (by omega)]
 ·rw [decide_eq_false (show ¬ x.hi - x.lo ≥ n - 1 from h1),if_neg h1,cond_false]
  by_cases h2:r+(x.hi - x.lo) < n
  ·rw [decide_eq_true h2,if_pos h2,cond_true,some_l]
   unfold someS; rw [if_neg (by omega)]
  ·rw [decide_eq_false h2,if_neg h2,cond_false,y7 (by omega) (by omega)]; rfl
theorem restS_bd {x:Sn} {n:Int} (hx:x.lo≤x.hi) (hn:1≤n):∀ s∈restS x n,0≤s.lo∧s.lo≤s.hi∧s.hi < n:=by
 have e1:=Int.emod_nonneg x.lo (show n ≠ 0 by omega)
 have e2:=Int.emod_lt_of_pos x.lo (show 0 < n by omega)
 intro s hs
 unfold restS at hs
 split at hs
 ·rw [List.mem_singleton.1 hs]; simp only; omega
 ·split at hs
  ·rw [List.mem_singleton.1 hs]; simp only; omega
  ·simp only [List.mem_cons,List.not_mem_nil,or_false] at hs
   rcases hs with rfl | rfl <;> simp only <;> omega
theorem rests1_bd (x:Sn) (n:Int) (hx:-1099511627776≤x.lo∧x.lo≤x.hi∧x.hi≤1099511627776) (hn:1≤n∧n≤10000):∀ s∈(z7 x n).l,0≤s.lo∧s.lo≤s.hi∧s.hi < n:=by
 rw [rests1_eq hx hn]
 exact restS_bd hx.2.1 hn.1
theorem all_app {α:Type} {p:α→Prop} {a b:List α} (ha:∀ s∈a,p s) (hb:∀ s∈b,p s):∀ s∈a++b,p s:=fun s hs=>(List.mem_append.1 hs).elim (ha s) (hb s)
end Go.VS

namespace Go.VS
open Go Go.Proofs
set_option maxHeartbeats 0
set_option linter.unusedSimpArgs false
set_option linter.unusedVariables false
def sd40132 (ν0 ν1 ν2:Nat) (μ0:List Sn) (μ1:GS Sn) (μ2:Int):St:=⟨21,[(11,B false),(1,.fn (.func 106) [] [.lref ν0 0 1 0]),(5,.lsl ν1 0 μ0.length 2 none),(8,.sl μ1.nl (μ1.l.map Sn.D) (zsl μ1.nl 2) none),(9,I ((μ1.l.length:Nat):Int)),(10,I ((μ1.l.length:Nat):Int))],[(ν0,⟨[I μ2],1,true⟩),(ν1,⟨μ0.map Sn.D,2,false⟩)],ν2,ν1⟩

def sd40133 (ν0 ν1 ν2:Nat) (μ0:List Sn) (μ1:GS Sn) (μ2:Int):St:=⟨21,[(11,B false),(1,.fn (.func 106) [] [.lref ν0 0 1 0]),(5,.lsl ν1 0 μ0.length 2 none),(8,.sl μ1.nl (μ1.l.map Sn.D) (zsl μ1.nl 2) none),(9,I ((μ1.l.length:Nat):Int)),(10,I ((μ1.l.length:Nat):Int))],[(ν0,⟨[I μ2],1,false⟩),(ν1,⟨μ0.map Sn.D,2,false⟩)],ν2,ν1⟩

def sd40134 (ν0 ν1:Nat) (μ0:GS Sn) (μ1:Int):St:=⟨21,[(11,B false),(1,.fn (.func 106) [] [.lref ν0 0 1 0]),(5,.sl true [] 0 none),(8,.sl μ0.nl (μ0.l.map Sn.D) (zsl μ0.nl 2) none),(9,I ((μ0.l.length:Nat):Int)),(10,I ((μ0.l.length:Nat):Int))],[(ν0,⟨[I μ1],1,true⟩)],ν1,ν1⟩

def sd40135 (ν0 ν1:Nat) (μ0:GS Sn) (μ1:Int):St:=⟨21,[(11,B false),(1,.fn (.func 106) [] [.lref ν0 0 1 0]),(5,.sl true [] 0 none),(8,.sl μ0.nl (μ0.l.map Sn.D) (zsl μ0.nl 2) none),(9,I ((μ0.l.length:Nat):Int)),(10,I ((μ0.l.length:Nat):Int))],[(ν0,⟨[I μ1],1,false⟩)],ν1,ν1⟩

def sd40136 (ν0 ν1 ν2 ν3:Nat) (μ0:Nat) (μ1:List Sn) (μ2:Sn) (μ3:Int) (μ4:GS Sn):St:=⟨21,[(10,I ((μ0+1:Nat):Int)),(19,I ((μ0+1:Nat):Int)),(5,.lsl ν0 0 μ1.length 2 none),(18,.lsl ν0 0 μ1.length 2 none),(17,.sl ((z7 μ2 μ3).nl) (((z7 μ2 μ3).l).map Sn.D) (zsl ((z7 μ2 μ3).nl) 2) none),(16,.agg [I μ2.lo,I μ2.hi]),(15,.fn (.func 106) [] [.lref ν1 0 1 0]),(14,.lsl ν0 0 μ1.length 2 none),(7,.lref ν2 0 2 0),(13,.agg [I μ2.lo,I μ2.hi]),(12,.ptr (.agg [I μ2.lo,I μ2.hi])),(11,B true),(1,.fn (.func 106) [] [.lref ν1 0 1 0]),(5,.lsl ν0 0 μ1.length 2 none),(8,.sl μ4.nl (μ4.l.map Sn.D) (zsl μ4.nl 2) none),(9,I ((μ4.l.length:Nat):Int)),(10,I ((μ0:Nat):Int))],[(ν1,⟨[I μ3],1,true⟩),(ν0,⟨μ1.map Sn.D,2,false⟩),(ν2,⟨[.agg [I μ2.lo,I μ2.hi]],2,false⟩)],ν3,ν0⟩

def sd40137 (ν0 ν1 ν2 ν3 ν4:Nat) (μ0:Nat) (μ1:List Sn) (μ2:Sn) (μ3:Int) (μ4:GS Sn):St:=⟨21,[(10,I ((μ0+1:Nat):Int)),(19,I ((μ0+1:Nat):Int)),(5,.lsl ν0 0 ((μ1++((z7 μ2 μ3).l)).length) 2 none),(18,.lsl ν0 0 ((μ1++((z7 μ2 μ3).l)).length) 2 none),(17,.sl ((z7 μ2 μ3).nl) (((z7 μ2 μ3).l).map Sn.D) (zsl ((z7 μ2 μ3).nl) 2) none),(16,.agg [I μ2.lo,I μ2.hi]),(15,.fn (.func 106) [] [.lref ν1 0 1 0]),(14,.lsl ν2 0 μ1.length 2 none),(7,.lref ν3 0 2 0),(13,.agg [I μ2.lo,I μ2.hi]),(12,.ptr (.agg [I μ2.lo,I μ2.hi])),(11,B true),(1,.fn (.func 106) [] [.lref ν1 0 1 0]),(5,.lsl ν2 0 μ1.length 2 none),(8,.sl μ4.nl (μ4.l.map Sn.D) (zsl μ4.nl 2) none),(9,I ((μ4.l.length:Nat):Int)),(10,I ((μ0:Nat):Int))],[(ν1,⟨[I μ3],1,true⟩),(ν3,⟨[.agg [I μ2.lo,I μ2.hi]],2,false⟩),(ν0,⟨(μ1++((z7 μ2 μ3).l)).map Sn.D,2,false⟩)],ν4,ν2⟩

def sd40138 (ν0 ν1 ν2 ν3:Nat) (μ0:Nat) (μ1:List Sn) (μ2:Sn) (μ3:Int) (μ4:GS Sn):St:=⟨21,[(10,I ((μ0+1:Nat):Int)),(19,I ((μ0+1:Nat):Int)),(5,.lsl ν0 0 μ1.length 2 none),(18,.lsl ν0 0 μ1.length 2 none),(17,.sl ((z7 μ2 μ3).nl) (((z7 μ2 μ3).l).map Sn.D) (zsl ((z7 μ2 μ3).nl) 2) none),(16,.agg [I μ2.lo,I μ2.hi]),(15,.fn (.func 106) [] [.lref ν1 0 1 0]),(14,.lsl ν0 0 μ1.length 2 none),(7,.lref ν2 0 2 0),(13,.agg [I μ2.lo,I μ2.hi]),(12,.ptr (.agg [I μ2.lo,I μ2.hi])),(11,B true),(1,.fn (.func 106) [] [.lref ν1 0 1 0]),(5,.lsl ν0 0 μ1.length 2 none),(8,.sl μ4.nl (μ4.l.map Sn.D) (zsl μ4.nl 2) none),(9,I ((μ4.l.length:Nat):Int)),(10,I ((μ0:Nat):Int))],[(ν1,⟨[I μ3],1,false⟩),(ν0,⟨μ1.map Sn.D,2,false⟩),(ν2,⟨[.agg [I μ2.lo,I μ2.hi]],2,false⟩)],ν3,ν0⟩

def sd40139 (ν0 ν1 ν2 ν3 ν4:Nat) (μ0:Nat) (μ1:List Sn) (μ2:Sn) (μ3:Int) (μ4:GS Sn):St:=⟨21,[(10,I ((μ0+1:Nat):Int)),(19,I ((μ0+1:Nat):Int)),(5,.lsl ν0 0 ((μ1++((z7 μ2 μ3).l)).length) 2 none),(18,.lsl ν0 0 ((μ1++((z7 μ2 μ3).l)).length) 2 none),(17,.sl ((z7 μ2 μ3).nl) (((z7 μ2 μ3).l).map Sn.D) (zsl ((z7 μ2 μ3).nl) 2) none),(16,.agg [I μ2.lo,I μ2.hi]),(15,.fn (.func 106) [] [.lref ν1 0 1 0]),(14,.lsl ν2 0 μ1.length 2 none),(7,.lref ν3 0 2 0),(13,.agg [I μ2.lo,I μ2.hi]),(12,.ptr (.agg [I μ2.lo,I μ2.hi])),(11,B true),(1,.fn (.func 106) [] [.lref ν1 0 1 0]),(5,.lsl ν2 0 μ1.length 2 none),(8,.sl μ4.nl (μ4.l.map Sn.D) (zsl μ4.nl 2) none),(9,I ((μ4.l.length:Nat):Int)),(10,I ((μ0:Nat):Int))],[(ν1,⟨[I μ3],1,false⟩),(ν3,⟨[.agg [I μ2.lo,I μ2.hi]],2,false⟩),(ν0,⟨(μ1++((z7 μ2 μ3).l)).map Sn.D,2,false⟩)],ν4,ν2⟩

def sd40140 (ν0 ν1 ν2 ν3:Nat) (μ0:Nat) (μ1:Sn) (μ2:Int) (μ3:GS Sn):St:=⟨21,[(10,I ((μ0+1:Nat):Int)),(19,I ((μ0+1:Nat):Int)),(5,.lsl ν0 0 (((z7 μ1 μ2).l).length) 2 none),(18,.lsl ν0 0 (((z7 μ1 μ2).l).length) 2 none),(17,.sl ((z7 μ1 μ2).nl) (((z7 μ1 μ2).l).map Sn.D) (zsl ((z7 μ1 μ2).nl) 2) none),(16,.agg [I μ1.lo,I μ1.hi]),(15,.fn (.func 106) [] [.lref ν1 0 1 0]),(14,.sl true [] 0 none),(7,.lref ν2 0 2 0),(13,.agg [I μ1.lo,I μ1.hi]),(12,.ptr (.agg [I μ1.lo,I μ1.hi])),(11,B true),(1,.fn (.func 106) [] [.lref ν1 0 1 0]),(5,.sl true [] 0 none),(8,.sl μ3.nl (μ3.l.map Sn.D) (zsl μ3.nl 2) none),(9,I ((μ3.l.length:Nat):Int)),(10,I ((μ0:Nat):Int))],[(ν1,⟨[I μ2],1,true⟩),(ν2,⟨[.agg [I μ1.lo,I μ1.hi]],2,false⟩),(ν0,⟨((z7 μ1 μ2).l).map Sn.D,2,false⟩)],ν3,ν2⟩

def sd40141 (ν0 ν1 ν2 ν3:Nat) (μ0:Nat) (μ1:Sn) (μ2:Int) (μ3:GS Sn):St:=⟨21,[(10,I ((μ0+1:Nat):Int)),(19,I ((μ0+1:Nat):Int)),(5,.lsl ν0 0 (((z7 μ1 μ2).l).length) 2 none),(18,.lsl ν0 0 (((z7 μ1 μ2).l).length) 2 none),(17,.sl ((z7 μ1 μ2).nl) (((z7 μ1 μ2).l).map Sn.D) (zsl ((z7 μ1 μ2).nl) 2) none),(16,.agg [I μ1.lo,I μ1.hi]),(15,.fn (.func 106) [] [.lref ν1 0 1 0]),(14,.sl true [] 0 none),(7,.lref ν2 0 2 0),(13,.agg [I μ1.lo,I μ1.hi]),(12,.ptr (.agg [I μ1.lo,I μ1.hi])),(11,B true),(1,.fn (.func 106) [] [.lref ν1 0 1 0]),(5,.sl true [] 0 none),(8,.sl μ3.nl (μ3.l.map Sn.D) (zsl μ3.nl 2) none),(9,I ((μ3.l.length:Nat):Int)),(10,I ((μ0:Nat):Int))],[(ν1,⟨[I μ2],1,false⟩),(ν2,⟨[.agg [I μ1.lo,I μ1.hi]],2,false⟩),(ν0,⟨((z7 μ1 μ2).l).map Sn.D,2,false⟩)],ν3,ν2⟩

inductive LR_ranges_each_3p4 where
 | x0 (yt:List Sn)
 | x1 (yq:List Sn)
 | x2
 | x3
instance:Inhabited LR_ranges_each_3p4:=⟨.x0 default⟩
def zI (n:Int):List Sn→(List Sn)→LR_ranges_each_3p4
 | [],yt=>.x0 yt
 | yP::yL,yt =>
  bif (z7 yP n).nl then
   bif ((z7 yP n).l).isEmpty then
    zI n yL yt
   else
    zI n yL (yt++((z7 yP n).l))
  else
   bif ((z7 yP n).l).isEmpty then
    zI n yL yt
   else
    zI n yL (yt++((z7 yP n).l))
def yd (n:Int):List Sn→(List Sn)→LR_ranges_each_3p4
 | [],yq=>.x1 yq
 | yP::yL,yq =>
  bif (z7 yP n).nl then
   bif ((z7 yP n).l).isEmpty then
    yd n yL yq
   else
    yd n yL (yq++((z7 yP n).l))
  else
   bif ((z7 yP n).l).isEmpty then
    zI n yL yq
   else
    zI n yL (yq++((z7 yP n).l))
def ranges_each_3p4b (n:Int):List Sn→LR_ranges_each_3p4
 | []=>.x2
 | yP::yL =>
  bif (z7 yP n).nl then
   bif ((z7 yP n).l).isEmpty then
    ranges_each_3p4b n yL
   else
    zI n yL ((z7 yP n).l)
  else
   bif ((z7 yP n).l).isEmpty then
    ranges_each_3p4b n yL
   else
    zI n yL ((z7 yP n).l)
def ranges_each_3p4 (n:Int):List Sn→LR_ranges_each_3p4
 | []=>.x3
 | yP::yL =>
  bif (z7 yP n).nl then
   bif ((z7 yP n).l).isEmpty then
    ranges_each_3p4 n yL
   else
    yd n yL ((z7 yP n).l)
  else
   bif ((z7 yP n).l).isEmpty then
    ranges_each_3p4b n yL
   else
    zI n yL ((z7 yP n).l)
def lr_ranges_each_3p4 (r:GS Sn) (n:Int):LR_ranges_each_3p4→Exit × St
 | .x0 yt=>((.exit 0),(sd40132 0 1 2 yt r n))
 | .x1 yq=>((.exit 0),(sd40133 0 1 2 yq r n))
 | .x2=>((.exit 0),(sd40134 0 1 r n))
 | .x3=>((.exit 0),(sd40135 0 1 r n))
def iv_ranges_each_3p4 (r:GS Sn) (n:Int):LR_ranges_each_3p4→Prop
 | .x0 yt=>(yt.length≤2 * r.l.length)
 | .x1 yq=>(yq.length≤2 * r.l.length)
 | .x2=>True
 | .x3=>True
def ranges_each_3p4c_l_o1 (n:Int) (yP:Sn):List Ora:=[.dec true,.el (.agg [I yP.lo,I yP.hi]),.pureS (.sl ((z7 yP n).nl) (((z7 yP n).l).map Sn.D) (zsl ((z7 yP n).nl) 2) none) true []]
def ranges_each_3p4c_l_o2 (n:Int) (yP:Sn):List Ora:=[.dec true,.el (.agg [I yP.lo,I yP.hi]),.pureS (.sl ((z7 yP n).nl) (((z7 yP n).l).map Sn.D) (zsl ((z7 yP n).nl) 2) none) false []]
theorem lp_ranges_each_3p4c (r:GS Sn) (n:Int):∀ (yL:List Sn) (x7:Nat) (yt:List Sn) (yI:r.l.drop x7=yL) (xz:x7≤r.l.length) (hB:∀ x∈r.l,-1099511627776≤x.lo∧x.lo≤x.hi∧x.hi≤1099511627776) (xC:r.l.length≤64) (hn:1≤n∧n≤10000) (hg3p4_vc3p4_0:yt.length≤2 * x7) (hL3p4:r.l.length≤1099511627776),(lim cfg).loop 70 lp70_3 ⟨21,[(1,.fn (.func 106) [] [.lref 0 0 1 0]),(5,.lsl 1 0 yt.length 2 none),(8,.sl r.nl (r.l.map Sn.D) (zsl r.nl 2) none),(9,I ((r.l.length:Nat):Int)),(10,I ((x7:Nat):Int))],[(0,⟨[I n],1,true⟩),(1,⟨yt.map Sn.D,2,false⟩)],2,1⟩=some (lr_ranges_each_3p4 r n (zI n yL yt)):=by
 intro yL
 induction yL with
 | nil =>
  intro x7 yt yI xz hB xC hn hg3p4_vc3p4_0 hL3p4
  unfold zI
  obtain rfl:x7=r.l.length:=nil_eq yI xz
  exact zF [.dec false] (Ai (lt_no yI) trivial) (by kernel_rfl)
 | cons yP yL ih =>
  intro x7 yt yI xz hB xC hn hg3p4_vc3p4_0 hL3p4
  have hlt3p4:=zc yI
  have hbx:=hB yP (mem_drop yI)
  have hlx:=rests1_len yP n
  unfold zI
  have p1:=(el_at (s:=r) (f:=Sn.D) (k:=2) yI)
  cases h15:(z7 yP n).nl with
  | true =>
   have p2:=(Ai (show flat yi (.sl ((z7 yP n).nl) (((z7 yP n).l).map Sn.D) (zsl ((z7 yP n).nl) 2) none)=true from (by rw [h15] <;> kernel_rfl)) (Ai (trivial) (y6 yP n (by omega) (by omega))))
   cases h16:((z7 yP n).l).isEmpty with
   | true =>
    exact zv (ks:=[1,5,8,9,10]) (st':=(sd40136 1 0 2 3 x7 yt yP n r)) ((ranges_each_3p4c_l_o1 n yP)++[.op (some 18) ⟨.lsl 1 0 yt.length 2 none,[],[],3⟩,.rw 19 (I ((x7+1:Nat):Int))]) (Ai (zX (i:=x7) (by have:=zc yI; omega)) (Ai (app_none (te:=zM) (gO:=zp [(0,⟨[I n],1,true⟩),(1,⟨yt.map Sn.D,2,false⟩),(2,⟨[.agg [I yP.lo,I yP.hi]],2,false⟩)]) (nxt:=3) (f:=Sn.D) (sz:=2) (d:=.lsl 1 0 yt.length 2 none) (z7 yP n) h16 rfl) (Ai p2 (Ai p1 (Ai (yk yI) trivial))))) (by kernel_rfl) (by (simp only [sd40136,go_sem,List.length_set,Nat.reduceAdd,Nat.reduceEqDiff,Nat.reduceLT,Nat.reduceLeDiff,bI2,z8.idsL,z8.renL,z8.snapAll,z6.idsL,z6.renL,z6.snapAll]) <;> rfl) (ih (x7+1) yt (ze yI) (zc yI) (by omega) (by omega) (by omega) (by omega) (by omega)) (by kernel_rfl)
   | false =>
    exact zv (ks:=[1,5,8,9,10]) (st':=(sd40137 3 0 1 2 4 x7 yt yP n r)) ((ranges_each_3p4c_l_o1 n yP)++[.op (some 18) ⟨.lsl 3 0 ((yt++((z7 yP n).l)).length) 2 none,[(1,none),(3,some ⟨(yt++((z7 yP n).l)).map Sn.D,2,false⟩)],[1],4⟩,.rw 19 (I ((x7+1:Nat):Int))]) (Ai (zX (i:=x7) (by have:=zc yI; omega)) (Ai (app_moreD (te:=zM) (gO:=zp [(0,⟨[I n],1,true⟩),(1,⟨yt.map Sn.D,2,false⟩),(2,⟨[.agg [I yP.lo,I yP.hi]],2,false⟩)]) (nxt:=3) (o:=1) (v:=yt) z6 (z7 yP n) h16 (by kernel_rfl) rfl (by kernel_rfl) (by decide) ⟨by simp only [zM,big] <;> (omega),by simp only [big] <;> (omega)⟩) (Ai p2 (Ai p1 (Ai (yk yI) trivial))))) (by kernel_rfl) (by (simp only [sd40137,go_sem,List.length_set,Nat.reduceAdd,Nat.reduceEqDiff,Nat.reduceLT,Nat.reduceLeDiff,bI2,z8.idsL,z8.renL,z8.snapAll,z6.idsL,z6.renL,z6.snapAll]) <;> rfl) (ih (x7+1) (yt++((z7 yP n).l)) (ze yI) (zc yI) (by omega) (by omega) (by omega) (by simp only [List.length_append,List.length_cons,List.length_nil] at * <;> omega) (by omega)) (by kernel_rfl)
  | false =>
   have p3:=(Ai (show flat yi (.sl ((z7 yP n).nl) (((z7 yP n).l).map Sn.D) (zsl ((z7 yP n).nl) 2) none)=false from (by rw [h15] <;> kernel_rfl)) (Ai (trivial) (y6 yP n (by omega) (by omega))))
   cases h17:((z7 yP n).l).isEmpty with
   | true =>
    exact zv (ks:=[1,5,8,9,10]) (st':=(sd40136 1 0 2 3 x7 yt yP n r)) ((ranges_each_3p4c_l_o2 n yP)++[.op (some 18) ⟨.lsl 1 0 yt.length 2 none,[],[],3⟩,.rw 19 (I ((x7+1:Nat):Int))]) (Ai (zX (i:=x7) (by have:=zc yI; omega)) (Ai (app_none (te:=zM) (gO:=zp [(0,⟨[I n],1,true⟩),(1,⟨yt.map Sn.D,2,false⟩),(2,⟨[.agg [I yP.lo,I yP.hi]],2,false⟩)]) (nxt:=3) (f:=Sn.D) (sz:=2) (d:=.lsl 1 0 yt.length 2 none) (z7 yP n) h17 rfl) (Ai p3 (Ai p1 (Ai (yk yI) trivial))))) (by kernel_rfl) (by (simp only [sd40136,go_sem,List.length_set,Nat.reduceAdd,Nat.reduceEqDiff,Nat.reduceLT,Nat.reduceLeDiff,bI2,z8.idsL,z8.renL,z8.snapAll,z6.idsL,z6.renL,z6.snapAll]) <;> rfl) (ih (x7+1) yt (ze yI) (zc yI) (by omega) (by omega) (by omega) (by omega) (by omega)) (by kernel_rfl)
   | false =>
    exact zv (ks:=[1,5,8,9,10]) (st':=(sd40137 3 0 1 2 4 x7 yt yP n r)) ((ranges_each_3p4c_l_o2 n yP)++[.op (some 18) ⟨.lsl 3 0 ((yt++((z7 yP n).l)).length) 2 none,[(1,none),(3,some ⟨(yt++((z7 yP n).l)).map Sn.D,2,false⟩)],[1],4⟩,.rw 19 (I ((x7+1:Nat):Int))]) (Ai (zX (i:=x7) (by have:=zc yI; omega)) (Ai (app_moreD (te:=zM) (gO:=zp [(0,⟨[I n],1,true⟩),(1,⟨yt.map Sn.D,2,false⟩),(2,⟨[.agg [I yP.lo,I yP.hi]],2,false⟩)]) (nxt:=3) (o:=1) (v:=yt) z6 (z7 yP n) h17 (by kernel_rfl) rfl (by kernel_rfl) (by decide) ⟨by simp only [zM,big] <;> (omega),by simp only [big] <;> (omega)⟩) (Ai p3 (Ai p1 (Ai (yk yI) trivial))))) (by kernel_rfl) (by (simp only [sd40137,go_sem,List.length_set,Nat.reduceAdd,Nat.reduceEqDiff,Nat.reduceLT,Nat.reduceLeDiff,bI2,z8.idsL,z8.renL,z8.snapAll,z6.idsL,z6.renL,z6.snapAll]) <;> rfl) (ih (x7+1) (yt++((z7 yP n).l)) (ze yI) (zc yI) (by omega) (by omega) (by omega) (by simp only [List.length_append,List.length_cons,List.length_nil] at * <;> omega) (by omega)) (by kernel_rfl)
theorem ivt_ranges_each_3p4c (r:GS Sn) (n:Int):∀ (yL:List Sn) (x7:Nat) (yt:List Sn) (yI:r.l.drop x7=yL) (xz:x7≤r.l.length) (hB:∀ x∈r.l,-1099511627776≤x.lo∧x.lo≤x.hi∧x.hi≤1099511627776) (xC:r.l.length≤64) (hn:1≤n∧n≤10000) (hg3p4_vc3p4_0:yt.length≤2 * x7) (hL3p4:r.l.length≤1099511627776),iv_ranges_each_3p4 r n (zI n yL yt):=by
 intro yL
 induction yL with
 | nil =>
  intro x7 yt yI xz hB xC hn hg3p4_vc3p4_0 hL3p4
  unfold zI
  obtain rfl:x7=r.l.length:=nil_eq yI xz
  exact hg3p4_vc3p4_0
 | cons yP yL ih =>
  intro x7 yt yI xz hB xC hn hg3p4_vc3p4_0 hL3p4
  have hlt3p4:=zc yI
  have hbx:=hB yP (mem_drop yI)
  have hlx:=rests1_len yP n
  unfold zI
  cases h15:(z7 yP n).nl with
  | true =>
   cases h16:((z7 yP n).l).isEmpty with
   | true =>
    exact ih (x7+1) yt (ze yI) (zc yI) (by omega) (by omega) (by omega) (by omega) (by omega)
   | false =>
    exact ih (x7+1) (yt++((z7 yP n).l)) (ze yI) (zc yI) (by omega) (by omega) (by omega) (by simp only [List.length_append,List.length_cons,List.length_nil] at * <;> omega) (by omega)
  | false =>
   cases h17:((z7 yP n).l).isEmpty with
   | true =>
    exact ih (x7+1) yt (ze yI) (zc yI) (by omega) (by omega) (by omega) (by omega) (by omega)
   | false =>
    exact ih (x7+1) (yt++((z7 yP n).l)) (ze yI) (zc yI) (by omega) (by omega) (by omega) (by simp only [List.length_append,List.length_cons,List.length_nil] at * <;> omega) (by omega)
def ranges_each_3p4a_l_o1 (n:Int) (yP:Sn):List Ora:=[.dec true,.el (.agg [I yP.lo,I yP.hi]),.pureS (.sl ((z7 yP n).nl) (((z7 yP n).l).map Sn.D) (zsl ((z7 yP n).nl) 2) none) true []]
def ranges_each_3p4a_l_o2 (n:Int) (yP:Sn):List Ora:=[.dec true,.el (.agg [I yP.lo,I yP.hi]),.pureS (.sl ((z7 yP n).nl) (((z7 yP n).l).map Sn.D) (zsl ((z7 yP n).nl) 2) none) false []]
theorem lp_ranges_each_3p4a (r:GS Sn) (n:Int):∀ (yL:List Sn) (x7:Nat) (yq:List Sn) (yI:r.l.drop x7=yL) (xz:x7≤r.l.length) (hB:∀ x∈r.l,-1099511627776≤x.lo∧x.lo≤x.hi∧x.hi≤1099511627776) (xC:r.l.length≤64) (hn:1≤n∧n≤10000) (hg3p4_va3p4_0:yq.length≤2 * x7) (hL3p4:r.l.length≤1099511627776),(lim cfg).loop 70 lp70_3 ⟨21,[(1,.fn (.func 106) [] [.lref 0 0 1 0]),(5,.lsl 1 0 yq.length 2 none),(8,.sl r.nl (r.l.map Sn.D) (zsl r.nl 2) none),(9,I ((r.l.length:Nat):Int)),(10,I ((x7:Nat):Int))],[(0,⟨[I n],1,false⟩),(1,⟨yq.map Sn.D,2,false⟩)],2,1⟩=some (lr_ranges_each_3p4 r n (yd n yL yq)):=by
 intro yL
 induction yL with
 | nil =>
  intro x7 yq yI xz hB xC hn hg3p4_va3p4_0 hL3p4
  unfold yd
  obtain rfl:x7=r.l.length:=nil_eq yI xz
  exact zF [.dec false] (Ai (lt_no yI) trivial) (by kernel_rfl)
 | cons yP yL ih =>
  intro x7 yq yI xz hB xC hn hg3p4_va3p4_0 hL3p4
  have hlt3p4:=zc yI
  have hbx:=hB yP (mem_drop yI)
  have hlx:=rests1_len yP n
  unfold yd
  have p1:=(el_at (s:=r) (f:=Sn.D) (k:=2) yI)
  cases h18:(z7 yP n).nl with
  | true =>
   have p2:=(Ai (show flat yi (.sl ((z7 yP n).nl) (((z7 yP n).l).map Sn.D) (zsl ((z7 yP n).nl) 2) none)=true from (by rw [h18] <;> kernel_rfl)) (Ai (trivial) (y6 yP n (by omega) (by omega))))
   cases h19:((z7 yP n).l).isEmpty with
   | true =>
    exact zv (ks:=[1,5,8,9,10]) (st':=(sd40138 1 0 2 3 x7 yq yP n r)) ((ranges_each_3p4a_l_o1 n yP)++[.op (some 18) ⟨.lsl 1 0 yq.length 2 none,[],[],3⟩,.rw 19 (I ((x7+1:Nat):Int))]) (Ai (zX (i:=x7) (by have:=zc yI; omega)) (Ai (app_none (te:=zM) (gO:=zp [(0,⟨[I n],1,false⟩),(1,⟨yq.map Sn.D,2,false⟩),(2,⟨[.agg [I yP.lo,I yP.hi]],2,false⟩)]) (nxt:=3) (f:=Sn.D) (sz:=2) (d:=.lsl 1 0 yq.length 2 none) (z7 yP n) h19 rfl) (Ai p2 (Ai p1 (Ai (yk yI) trivial))))) (by kernel_rfl) (by (simp only [sd40138,go_sem,List.length_set,Nat.reduceAdd,Nat.reduceEqDiff,Nat.reduceLT,Nat.reduceLeDiff,bI2,z8.idsL,z8.renL,z8.snapAll,z6.idsL,z6.renL,z6.snapAll]) <;> rfl) (ih (x7+1) yq (ze yI) (zc yI) (by omega) (by omega) (by omega) (by omega) (by omega)) (by kernel_rfl)
   | false =>
    exact zv (ks:=[1,5,8,9,10]) (st':=(sd40139 3 0 1 2 4 x7 yq yP n r)) ((ranges_each_3p4a_l_o1 n yP)++[.op (some 18) ⟨.lsl 3 0 ((yq++((z7 yP n).l)).length) 2 none,[(1,none),(3,some ⟨(yq++((z7 yP n).l)).map Sn.D,2,false⟩)],[1],4⟩,.rw 19 (I ((x7+1:Nat):Int))]) (Ai (zX (i:=x7) (by have:=zc yI; omega)) (Ai (app_moreD (te:=zM) (gO:=zp [(0,⟨[I n],1,false⟩),(1,⟨yq.map Sn.D,2,false⟩),(2,⟨[.agg [I yP.lo,I yP.hi]],2,false⟩)]) (nxt:=3) (o:=1) (v:=yq) z6 (z7 yP n) h19 (by kernel_rfl) rfl (by kernel_rfl) (by decide) ⟨by simp only [zM,big] <;> (omega),by simp only [big] <;> (omega)⟩) (Ai p2 (Ai p1 (Ai (yk yI) trivial))))) (by kernel_rfl) (by (simp only [sd40139,go_sem,List.length_set,Nat.reduceAdd,Nat.reduceEqDiff,Nat.reduceLT,Nat.reduceLeDiff,bI2,z8.idsL,z8.renL,z8.snapAll,z6.idsL,z6.renL,z6.snapAll]) <;> rfl) (ih (x7+1) (yq++((z7 yP n).l)) (ze yI) (zc yI) (by omega) (by omega) (by omega) (by simp only [List.length_append,List.length_cons,List.length_nil] at * <;> omega) (by omega)) (by kernel_rfl)
  | false =>
   have p3:=(Ai (show flat yi (.sl ((z7 yP n).nl) (((z7 yP n).l).map Sn.D) (zsl ((z7 yP n).nl) 2) none)=false from (by rw [h18] <;> kernel_rfl)) (Ai (trivial) (y6 yP n (by omega) (by omega))))
   cases h20:((z7 yP n).l).isEmpty with
   | true =>
    exact zv (ks:=[1,5,8,9,10]) (st':=(sd40136 1 0 2 3 x7 yq yP n r)) ((ranges_each_3p4a_l_o2 n yP)++[.op (some 18) ⟨.lsl 1 0 yq.length 2 none,[],[],3⟩,.rw 19 (I ((x7+1:Nat):Int))]) (Ai (zX (i:=x7) (by have:=zc yI; omega)) (Ai (app_none (te:=zM) (gO:=zp [(0,⟨[I n],1,true⟩),(1,⟨yq.map Sn.D,2,false⟩),(2,⟨[.agg [I yP.lo,I yP.hi]],2,false⟩)]) (nxt:=3) (f:=Sn.D) (sz:=2) (d:=.lsl 1 0 yq.length 2 none) (z7 yP n) h20 rfl) (Ai p3 (Ai p1 (Ai (yk yI) trivial))))) (by kernel_rfl) (by (simp only [sd40136,go_sem,List.length_set,Nat.reduceAdd,Nat.reduceEqDiff,Nat.reduceLT,Nat.reduceLeDiff,bI2,z8.idsL,z8.renL,z8.snapAll,z6.idsL,z6.renL,z6.snapAll]) <;> rfl) (lp_ranges_each_3p4c r n _ (x7+1) yq (ze yI) (zc yI) (by omega) (by omega) (by omega) (by omega) (by omega)) (by kernel_rfl)
   | false =>
    exact zv (ks:=[1,5,8,9,10]) (st':=(sd40137 3 0 1 2 4 x7 yq yP n r)) ((ranges_each_3p4a_l_o2 n yP)++[.op (some 18) ⟨.lsl 3 0 ((yq++((z7 yP n).l)).length) 2 none,[(1,none),(3,some ⟨(yq++((z7 yP n).l)).map Sn.D,2,false⟩)],[1],4⟩,.rw 19 (I ((x7+1:Nat):Int))]) (Ai (zX (i:=x7) (by have:=zc yI; omega)) (Ai (app_moreD (te:=zM) (gO:=zp [(0,⟨[I n],1,true⟩),(1,⟨yq.map Sn.D,2,false⟩),(2,⟨[.agg [I yP.lo,I yP.hi]],2,false⟩)]) (nxt:=3) (o:=1) (v:=yq) z6 (z7 yP n) h20 (by kernel_rfl) rfl (by kernel_rfl) (by decide) ⟨by simp only [zM,big] <;> (omega),by simp only [big] <;> (omega)⟩) (Ai p3 (Ai p1 (Ai (yk yI) trivial))))) (by kernel_rfl) (by (simp only [sd40137,go_sem,List.length_set,Nat.reduceAdd,Nat.reduceEqDiff,Nat.reduceLT,Nat.reduceLeDiff,bI2,z8.idsL,z8.renL,z8.snapAll,z6.idsL,z6.renL,z6.snapAll]) <;> rfl) (lp_ranges_each_3p4c r n _ (x7+1) (yq++((z7 yP n).l)) (ze yI) (zc yI) (by omega) (by omega) (by omega) (by simp only [List.length_append,List.length_cons,List.length_nil] at * <;> omega) (by omega)) (by kernel_rfl)
theorem ivt_ranges_each_3p4a (r:GS Sn) (n:Int):∀ (yL:List Sn) (x7:Nat) (yq:List Sn) (yI:r.l.drop x7=yL) (xz:x7≤r.l.length) (hB:∀ x∈r.l,-1099511627776≤x.lo∧x.lo≤x.hi∧x.hi≤1099511627776) (xC:r.l.length≤64) (hn:1≤n∧n≤10000) (hg3p4_va3p4_0:yq.length≤2 * x7) (hL3p4:r.l.length≤1099511627776),iv_ranges_each_3p4 r n (yd n yL yq):=by
 intro yL
 induction yL with
 | nil =>
  intro x7 yq yI xz hB xC hn hg3p4_va3p4_0 hL3p4
  unfold yd
  obtain rfl:x7=r.l.length:=nil_eq yI xz
  exact hg3p4_va3p4_0
 | cons yP yL ih =>
  intro x7 yq yI xz hB xC hn hg3p4_va3p4_0 hL3p4
  have hlt3p4:=zc yI
  have hbx:=hB yP (mem_drop yI)
  have hlx:=rests1_len yP n
  unfold yd
  cases h18:(z7 yP n).nl with
  | true =>
   cases h19:((z7 yP n).l).isEmpty with
   | true =>
    exact ih (x7+1) yq (ze yI) (zc yI) (by omega) (by omega) (by omega) (by omega) (by omega)
   | false =>
    exact ih (x7+1) (yq++((z7 yP n).l)) (ze yI) (zc yI) (by omega) (by omega) (by omega) (by simp only [List.length_append,List.length_cons,List.length_nil] at * <;> omega) (by omega)
  | false =>
   cases h20:((z7 yP n).l).isEmpty with
   | true =>
    exact ivt_ranges_each_3p4c r n _ (x7+1) yq (ze yI) (zc yI) (by omega) (by omega) (by omega) (by omega) (by omega)
   | false =>
    exact ivt_ranges_each_3p4c r n _ (x7+1) (yq++((z7 yP n).l)) (ze yI) (zc yI) (by omega) (by omega) (by omega) (by simp only [List.length_append,List.length_cons,List.length_nil] at * <;> omega) (by omega)
def ranges_each_3p4b_l_o1 (n:Int) (yP:Sn):List Ora:=[.dec true,.el (.agg [I yP.lo,I yP.hi]),.pureS (.sl ((z7 yP n).nl) (((z7 yP n).l).map Sn.D) (zsl ((z7 yP n).nl) 2) none) true []]
def ranges_each_3p4b_l_o2 (n:Int) (yP:Sn):List Ora:=[.dec true,.el (.agg [I yP.lo,I yP.hi]),.pureS (.sl ((z7 yP n).nl) (((z7 yP n).l).map Sn.D) (zsl ((z7 yP n).nl) 2) none) false []]
theorem lp_ranges_each_3p4b (r:GS Sn) (n:Int):∀ (yL:List Sn) (x7:Nat) (yI:r.l.drop x7=yL) (xz:x7≤r.l.length) (hB:∀ x∈r.l,-1099511627776≤x.lo∧x.lo≤x.hi∧x.hi≤1099511627776) (xC:r.l.length≤64) (hn:1≤n∧n≤10000) (hL3p4:r.l.length≤1099511627776),(lim cfg).loop 70 lp70_3 ⟨21,[(1,.fn (.func 106) [] [.lref 0 0 1 0]),(5,.sl true [] 0 none),(8,.sl r.nl (r.l.map Sn.D) (zsl r.nl 2) none),(9,I ((r.l.length:Nat):Int)),(10,I ((x7:Nat):Int))],[(0,⟨[I n],1,true⟩)],1,1⟩=some (lr_ranges_each_3p4 r n (ranges_each_3p4b n yL)):=by
 intro yL
 induction yL with
 | nil =>
  intro x7 yI xz hB xC hn hL3p4
  unfold ranges_each_3p4b
  obtain rfl:x7=r.l.length:=nil_eq yI xz
  exact zF [.dec false] (Ai (lt_no yI) trivial) (by kernel_rfl)
 | cons yP yL ih =>
  intro x7 yI xz hB xC hn hL3p4
  have hlt3p4:=zc yI
  have hbx:=hB yP (mem_drop yI)
  have hlx:=rests1_len yP n
  unfold ranges_each_3p4b
  have p1:=(el_at (s:=r) (f:=Sn.D) (k:=2) yI)
  cases h21:(z7 yP n).nl with
  | true =>
   have p2:=(Ai (show flat yi (.sl ((z7 yP n).nl) (((z7 yP n).l).map Sn.D) (zsl ((z7 yP n).nl) 2) none)=true from (by rw [h21] <;> kernel_rfl)) (Ai (trivial) (y6 yP n (by omega) (by omega))))
   cases h22:((z7 yP n).l).isEmpty with
   | true =>
    exact po_turn ((ranges_each_3p4b_l_o1 n yP)++[.op (some 18) ⟨.sl true [] 0 none,[],[],2⟩,.rw 19 (I ((x7+1:Nat):Int))]) (Ai (zX (i:=x7) (by have:=zc yI; omega)) (Ai (app_none (te:=zM) (gO:=zp [(0,⟨[I n],1,true⟩),(1,⟨[.agg [I yP.lo,I yP.hi]],2,false⟩)]) (nxt:=2) (f:=Sn.D) (sz:=2) (d:=.sl true [] 0 none) (z7 yP n) h22 rfl) (Ai p2 (Ai p1 (Ai (yk yI) trivial))))) (ih (x7+1) (ze yI) (zc yI) (by omega) (by omega) (by omega) (by omega)) (by kernel_rfl)
   | false =>
    exact zv (ks:=[1,5,8,9,10]) (st':=(sd40140 2 0 1 3 x7 yP n r)) ((ranges_each_3p4b_l_o1 n yP)++[.op (some 18) ⟨.lsl 2 0 (((z7 yP n).l).length) 2 none,[(2,some ⟨((z7 yP n).l).map Sn.D,2,false⟩)],[],3⟩,.rw 19 (I ((x7+1:Nat):Int))]) (Ai (zX (i:=x7) (by have:=zc yI; omega)) (Ai (app_newD (te:=zM) (gO:=zp [(0,⟨[I n],1,true⟩),(1,⟨[.agg [I yP.lo,I yP.hi]],2,false⟩)]) (nxt:=2) (els0:=[]) (sz0:=0) (cap0:=none) z6 (z7 yP n) h22 rfl (by kernel_rfl) (by decide) ⟨by simp only [zM,big] <;> (omega),by simp only [big] <;> (omega)⟩) (Ai p2 (Ai p1 (Ai (yk yI) trivial))))) (by kernel_rfl) (by (simp only [sd40140,go_sem,List.length_set,Nat.reduceAdd,Nat.reduceEqDiff,Nat.reduceLT,Nat.reduceLeDiff,bI2,z8.idsL,z8.renL,z8.snapAll,z6.idsL,z6.renL,z6.snapAll]) <;> rfl) (lp_ranges_each_3p4c r n _ (x7+1) ((z7 yP n).l) (ze yI) (zc yI) (by omega) (by omega) (by omega) (by omega) (by omega)) (by kernel_rfl)
  | false =>
   have p3:=(Ai (show flat yi (.sl ((z7 yP n).nl) (((z7 yP n).l).map Sn.D) (zsl ((z7 yP n).nl) 2) none)=false from (by rw [h21] <;> kernel_rfl)) (Ai (trivial) (y6 yP n (by omega) (by omega))))
   cases h23:((z7 yP n).l).isEmpty with
   | true =>
    exact po_turn ((ranges_each_3p4b_l_o2 n yP)++[.op (some 18) ⟨.sl true [] 0 none,[],[],2⟩,.rw 19 (I ((x7+1:Nat):Int))]) (Ai (zX (i:=x7) (by have:=zc yI; omega)) (Ai (app_none (te:=zM) (gO:=zp [(0,⟨[I n],1,true⟩),(1,⟨[.agg [I yP.lo,I yP.hi]],2,false⟩)]) (nxt:=2) (f:=Sn.D) (sz:=2) (d:=.sl true [] 0 none) (z7 yP n) h23 rfl) (Ai p3 (Ai p1 (Ai (yk yI) trivial))))) (ih (x7+1) (ze yI) (zc yI) (by omega) (by omega) (by omega) (by omega)) (by kernel_rfl)
   | false =>
    exact zv (ks:=[1,5,8,9,10]) (st':=(sd40140 2 0 1 3 x7 yP n r)) ((ranges_each_3p4b_l_o2 n yP)++[.op (some 18) ⟨.lsl 2 0 (((z7 yP n).l).length) 2 none,[(2,some ⟨((z7 yP n).l).map Sn.D,2,false⟩)],[],3⟩,.rw 19 (I ((x7+1:Nat):Int))]) (Ai (zX (i:=x7) (by have:=zc yI; omega)) (Ai (app_newD (te:=zM) (gO:=zp [(0,⟨[I n],1,true⟩),(1,⟨[.agg [I yP.lo,I yP.hi]],2,false⟩)]) (nxt:=2) (els0:=[]) (sz0:=0) (cap0:=none) z6 (z7 yP n) h23 rfl (by kernel_rfl) (by decide) ⟨by simp only [zM,big] <;> (omega),by simp only [big] <;> (omega)⟩) (Ai p3 (Ai p1 (Ai (yk yI) trivial))))) (by kernel_rfl) (by (simp only [sd40140,go_sem,List.length_set,Nat.reduceAdd,Nat.reduceEqDiff,Nat.reduceLT,Nat.reduceLeDiff,bI2,z8.idsL,z8.renL,z8.snapAll,z6.idsL,z6.renL,z6.snapAll]) <;> rfl) (lp_ranges_each_3p4c r n _ (x7+1) ((z7 yP n).l) (ze yI) (zc yI) (by omega) (by omega) (by omega) (by omega) (by omega)) (by kernel_rfl)
theorem ivt_ranges_each_3p4b (r:GS Sn) (n:Int):∀ (yL:List Sn) (x7:Nat) (yI:r.l.drop x7=yL) (xz:x7≤r.l.length) (hB:∀ x∈r.l,-1099511627776≤x.lo∧x.lo≤x.hi∧x.hi≤1099511627776) (xC:r.l.length≤64) (hn:1≤n∧n≤10000) (hL3p4:r.l.length≤1099511627776),iv_ranges_each_3p4 r n (ranges_each_3p4b n yL):=by
 intro yL
 induction yL with
 | nil =>
  intro x7 yI xz hB xC hn hL3p4
  unfold ranges_each_3p4b
  obtain rfl:x7=r.l.length:=nil_eq yI xz
  exact trivial
 | cons yP yL ih =>
  intro x7 yI xz hB xC hn hL3p4
  have hlt3p4:=zc yI
  have hbx:=hB yP (mem_drop yI)
  have hlx:=rests1_len yP n
  unfold ranges_each_3p4b
  cases h21:(z7 yP n).nl with
  | true =>
   cases h22:((z7 yP n).l).isEmpty with
   | true =>
    exact ih (x7+1) (ze yI) (zc yI) (by omega) (by omega) (by omega) (by omega)
   | false =>
    exact ivt_ranges_each_3p4c r n _ (x7+1) ((z7 yP n).l) (ze yI) (zc yI) (by omega) (by omega) (by omega) (by omega) (by omega)
  | false =>
   cases h23:((z7 yP n).l).isEmpty with
   | true =>
    exact ih (x7+1) (ze yI) (zc yI) (by omega) (by omega) (by omega) (by omega)
   | false =>
    exact ivt_ranges_each_3p4c r n _ (x7+1) ((z7 yP n).l) (ze yI) (zc yI) (by omega) (by omega) (by omega) (by omega) (by omega)
def ranges_each_3p4_l_o1 (n:Int) (yP:Sn):List Ora:=[.dec true,.el (.agg [I yP.lo,I yP.hi]),.pureS (.sl ((z7 yP n).nl) (((z7 yP n).l).map Sn.D) (zsl ((z7 yP n).nl) 2) none) true []]
def ranges_each_3p4_l_o2 (n:Int) (yP:Sn):List Ora:=[.dec true,.el (.agg [I yP.lo,I yP.hi]),.pureS (.sl ((z7 yP n).nl) (((z7 yP n).l).map Sn.D) (zsl ((z7 yP n).nl) 2) none) false []]
theorem lp_ranges_each_3p4 (r:GS Sn) (n:Int):∀ (yL:List Sn) (x7:Nat) (yI:r.l.drop x7=yL) (xz:x7≤r.l.length) (hB:∀ x∈r.l,-1099511627776≤x.lo∧x.lo≤x.hi∧x.hi≤1099511627776) (xC:r.l.length≤64) (hn:1≤n∧n≤10000) (hL3p4:r.l.length≤1099511627776),(lim cfg).loop 70 lp70_3 ⟨21,[(1,.fn (.func 106) [] [.lref 0 0 1 0]),(5,.sl true [] 0 none),(8,.sl r.nl (r.l.map Sn.D) (zsl r.nl 2) none),(9,I ((r.l.length:Nat):Int)),(10,I ((x7:Nat):Int))],[(0,⟨[I n],1,false⟩)],1,1⟩=some (lr_ranges_each_3p4 r n (ranges_each_3p4 n yL)):=by
 intro yL
 induction yL with
 | nil =>
  intro x7 yI xz hB xC hn hL3p4
  unfold ranges_each_3p4
  obtain rfl:x7=r.l.length:=nil_eq yI xz
  exact zF [.dec false] (Ai (lt_no yI) trivial) (by kernel_rfl)
 | cons yP yL ih =>
  intro x7 yI xz hB xC hn hL3p4
  have hlt3p4:=zc yI
  have hbx:=hB yP (mem_drop yI)
  have hlx:=rests1_len yP n
  unfold ranges_each_3p4
  have p1:=(el_at (s:=r) (f:=Sn.D) (k:=2) yI)
  cases h24:(z7 yP n).nl with
  | true =>
   have p2:=(Ai (show flat yi (.sl ((z7 yP n).nl) (((z7 yP n).l).map Sn.D) (zsl ((z7 yP n).nl) 2) none)=true from (by rw [h24] <;> kernel_rfl)) (Ai (trivial) (y6 yP n (by omega) (by omega))))
   cases h25:((z7 yP n).l).isEmpty with
   | true =>
    exact po_turn ((ranges_each_3p4_l_o1 n yP)++[.op (some 18) ⟨.sl true [] 0 none,[],[],2⟩,.rw 19 (I ((x7+1:Nat):Int))]) (Ai (zX (i:=x7) (by have:=zc yI; omega)) (Ai (app_none (te:=zM) (gO:=zp [(0,⟨[I n],1,false⟩),(1,⟨[.agg [I yP.lo,I yP.hi]],2,false⟩)]) (nxt:=2) (f:=Sn.D) (sz:=2) (d:=.sl true [] 0 none) (z7 yP n) h25 rfl) (Ai p2 (Ai p1 (Ai (yk yI) trivial))))) (ih (x7+1) (ze yI) (zc yI) (by omega) (by omega) (by omega) (by omega)) (by kernel_rfl)
   | false =>
    exact zv (ks:=[1,5,8,9,10]) (st':=(sd40141 2 0 1 3 x7 yP n r)) ((ranges_each_3p4_l_o1 n yP)++[.op (some 18) ⟨.lsl 2 0 (((z7 yP n).l).length) 2 none,[(2,some ⟨((z7 yP n).l).map Sn.D,2,false⟩)],[],3⟩,.rw 19 (I ((x7+1:Nat):Int))]) (Ai (zX (i:=x7) (by have:=zc yI; omega)) (Ai (app_newD (te:=zM) (gO:=zp [(0,⟨[I n],1,false⟩),(1,⟨[.agg [I yP.lo,I yP.hi]],2,false⟩)]) (nxt:=2) (els0:=[]) (sz0:=0) (cap0:=none) z6 (z7 yP n) h25 rfl (by kernel_rfl) (by decide) ⟨by simp only [zM,big] <;> (omega),by simp only [big] <;> (omega)⟩) (Ai p2 (Ai p1 (Ai (yk yI) trivial))))) (by kernel_rfl) (by (simp only [sd40141,go_sem,List.length_set,Nat.reduceAdd,Nat.reduceEqDiff,Nat.reduceLT,Nat.reduceLeDiff,bI2,z8.idsL,z8.renL,z8.snapAll,z6.idsL,z6.renL,z6.snapAll]) <;> rfl) (lp_ranges_each_3p4a r n _ (x7+1) ((z7 yP n).l) (ze yI) (zc yI) (by omega) (by omega) (by omega) (by omega) (by omega)) (by kernel_rfl)
  | false =>
   have p3:=(Ai (show flat yi (.sl ((z7 yP n).nl) (((z7 yP n).l).map Sn.D) (zsl ((z7 yP n).nl) 2) none)=false from (by rw [h24] <;> kernel_rfl)) (Ai (trivial) (y6 yP n (by omega) (by omega))))
   cases h26:((z7 yP n).l).isEmpty with
   | true =>
    exact po_turn ((ranges_each_3p4_l_o2 n yP)++[.op (some 18) ⟨.sl true [] 0 none,[],[],2⟩,.rw 19 (I ((x7+1:Nat):Int))]) (Ai (zX (i:=x7) (by have:=zc yI; omega)) (Ai (app_none (te:=zM) (gO:=zp [(0,⟨[I n],1,true⟩),(1,⟨[.agg [I yP.lo,I yP.hi]],2,false⟩)]) (nxt:=2) (f:=Sn.D) (sz:=2) (d:=.sl true [] 0 none) (z7 yP n) h26 rfl) (Ai p3 (Ai p1 (Ai (yk yI) trivial))))) (lp_ranges_each_3p4b r n _ (x7+1) (ze yI) (zc yI) (by omega) (by omega) (by omega) (by omega)) (by kernel_rfl)
   | false =>
    exact zv (ks:=[1,5,8,9,10]) (st':=(sd40140 2 0 1 3 x7 yP n r)) ((ranges_each_3p4_l_o2 n yP)++[.op (some 18) ⟨.lsl 2 0 (((z7 yP n).l).length) 2 none,[(2,some ⟨((z7 yP n).l).map Sn.D,2,false⟩)],[],3⟩,.rw 19 (I ((x7+1:Nat):Int))]) (Ai (zX (i:=x7) (by have:=zc yI; omega)) (Ai (app_newD (te:=zM) (gO:=zp [(0,⟨[I n],1,true⟩),(1,⟨[.agg [I yP.lo,I yP.hi]],2,false⟩)]) (nxt:=2) (els0:=[]) (sz0:=0) (cap0:=none) z6 (z7 yP n) h26 rfl (by kernel_rfl) (by decide) ⟨by simp only [zM,big] <;> (omega),by simp only [big] <;> (omega)⟩) (Ai p3 (Ai p1 (Ai (yk yI) trivial))))) (by kernel_rfl) (by (simp only [sd40140,go_sem,List.length_set,Nat.reduceAdd,Nat.reduceEqDiff,Nat.reduceLT,Nat.reduceLeDiff,bI2,z8.idsL,z8.renL,z8.snapAll,z6.idsL,z6.renL,z6.snapAll]) <;> rfl) (lp_ranges_each_3p4c r n _ (x7+1) ((z7 yP n).l) (ze yI) (zc yI) (by omega) (by omega) (by omega) (by omega) (by omega)) (by kernel_rfl)
theorem ivt_ranges_each_3p4 (r:GS Sn) (n:Int):∀ (yL:List Sn) (x7:Nat) (yI:r.l.drop x7=yL) (xz:x7≤r.l.length) (hB:∀ x∈r.l,-1099511627776≤x.lo∧x.lo≤x.hi∧x.hi≤1099511627776) (xC:r.l.length≤64) (hn:1≤n∧n≤10000) (hL3p4:r.l.length≤1099511627776),iv_ranges_each_3p4 r n (ranges_each_3p4 n yL):=by
 intro yL
 induction yL with
 | nil =>
  intro x7 yI xz hB xC hn hL3p4
  unfold ranges_each_3p4
  obtain rfl:x7=r.l.length:=nil_eq yI xz
  exact trivial
 | cons yP yL ih =>
  intro x7 yI xz hB xC hn hL3p4
  have hlt3p4:=zc yI
  have hbx:=hB yP (mem_drop yI)
  have hlx:=rests1_len yP n
  unfold ranges_each_3p4
  cases h24:(z7 yP n).nl with
  | true =>
   cases h25:((z7 yP n).l).isEmpty with
   | true =>
    exact ih (x7+1) (ze yI) (zc yI) (by omega) (by omega) (by omega) (by omega)
   | false =>
    exact ivt_ranges_each_3p4a r n _ (x7+1) ((z7 yP n).l) (ze yI) (zc yI) (by omega) (by omega) (by omega) (by omega) (by omega)
  | false =>
   cases h26:((z7 yP n).l).isEmpty with
   | true =>
    exact ivt_ranges_each_3p4b r n _ (x7+1) (ze yI) (zc yI) (by omega) (by omega) (by omega) (by omega)
   | false =>
    exact ivt_ranges_each_3p4c r n _ (x7+1) ((z7 yP n).l) (ze yI) (zc yI) (by omega) (by omega) (by omega) (by omega) (by omega)

def yh (r:GS Sn) (n:Int):(GS Sn) × Int :=
 bif ((zC r) != 0) then
  (GS.nil,(zC r))
 else
  bif (ranges_in n 1 10000) then
   match ranges_each_3p4 n r.l with
   | .x0 yt =>
    match zQ (zq zo yt) 0 with
    | .x0 yn =>
     bif decide (((yn.length:Nat):Int) > 64) then
      (GS.nil,2)
     else
      (GS.some yn,0)
    | .x1 x6 yQ yn =>
     (GS.nil,2)
    | .x2 x6 yQ yn =>
     (GS.nil,2)
    | .x3 =>
     (GS.nil,0)
    | .x4 x6 yQ =>
     (GS.nil,2)
    | .x5 x6 yQ =>
     (GS.nil,2)
   | .x1 yq =>
    match zQ (zq zo yq) 0 with
    | .x0 yn =>
     bif decide (((yn.length:Nat):Int) > 64) then
      (GS.nil,2)
     else
      (GS.some yn,0)
    | .x1 x6 yQ yn =>
     (GS.nil,2)
    | .x2 x6 yQ yn =>
     (GS.nil,2)
    | .x3 =>
     (GS.nil,0)
    | .x4 x6 yQ =>
     (GS.nil,2)
    | .x5 x6 yQ =>
     (GS.nil,2)
   | .x2 =>
    (GS.nil,0)
   | .x3 =>
    (GS.nil,0)
  else
   (GS.nil,1)

def ranges_Rest_o1 (r:GS Sn) (n:Int) (yt:List Sn):List Ora:=[.pure (I (zC r)),.dec false,.pure (B (ranges_in n 1 10000)),.dec true,.inl (.lsl 1 0 yt.length 2 none) [(0,⟨[I n],1,true⟩),(1,⟨yt.map Sn.D,2,false⟩)] 2]

def ranges_Rest_o2 (r:GS Sn) (n:Int) (yq:List Sn):List Ora:=[.pure (I (zC r)),.dec false,.pure (B (ranges_in n 1 10000)),.dec true,.inl (.lsl 1 0 yq.length 2 none) [(0,⟨[I n],1,false⟩),(1,⟨yq.map Sn.D,2,false⟩)] 2]

theorem T_ranges_Rest (r:GS Sn) (n:Int) (hLr:r.l.length≤9223372036854775807) (hL_r:r.l.length≤9223372036854775807):(lim cfg).pure 24 [GS.D Sn.D 2 r,I n]=some (.tup [GS.D Sn.D 2 ((yh r n).1),I ((yh r n).2)]):=by
 unfold yh
 cases h1:((zC r) != 0) with
 | true =>
  have g1:=bne_true h1
  exact zk [.pure (I (zC r)),.dec true] (Ai h1 (Ai (zm r (by omega)) trivial)) (by kernel_rfl)
 | false =>
  obtain ⟨g1,gb1⟩:=chk1 (bne_false h1)
  cases h2:(ranges_in n 1 10000) with
  | true =>
   have hn:=in_iff.1 h2
   cases h27:ranges_each_3p4 n r.l with
   | x0 yt =>
    try dsimp only
    have hv_h27:=ivt_ranges_each_3p4 r n r.l 0 (List.drop_zero) (Nat.zero_le _) (by omega) (by omega) (by omega) (by omega)
    rw [h27] at hv_h27
    have hv_h27_0:=hv_h27
    try dsimp only [iv_ranges_each_3p4] at hv_h27_0
    have p1:=(show (lim cfg).inl 82 [.sl r.nl (r.l.map Sn.D) (zsl r.nl 2) none,I n] [] 0=some (.lsl 1 0 yt.length 2 none,[(0,⟨[I n],1,true⟩),(1,⟨yt.map Sn.D,2,false⟩)],2) from po_inl [.inl (.lsl 1 0 yt.length 2 none) [(0,⟨[I n],1,true⟩),(1,⟨yt.map Sn.D,2,false⟩)] 2] (Ai (show (lim cfg).inl 70 [.sl r.nl (r.l.map Sn.D) (zsl r.nl 2) none,.fn (.func 106) [] [.lref 0 0 1 0]] [(0,⟨[I n],1,false⟩)] 1=some (.lsl 1 0 yt.length 2 none,[(0,⟨[I n],1,true⟩),(1,⟨yt.map Sn.D,2,false⟩)],2) from po_inl [.rw 9 (I ((r.l.length:Nat):Int)),.loop (.exit 0) (sd40132 0 1 2 yt r n)] (Ai (zZ (q:=lr_ranges_each_3p4 r n) (lp_ranges_each_3p4 r n r.l 0 (List.drop_zero) (Nat.zero_le _) (by omega) (by omega) (by omega) (by omega)) h27) (Ai (zj Sn.D r) trivial)) (by kernel_rfl)) trivial) (by kernel_rfl))
    cases h28:zQ (zq zo yt) 0 with
    | x0 yn =>
     try dsimp only
     have hv_h28:=ivt_ranges_gathered_4p1 yt (zq zo yt) (zq zo yt) 0 (List.drop_zero) (Nat.zero_le _) (by simp only [zY,GS.some_l,List.length_set,List.length_append,List.length_cons,List.length_nil] at * <;> first | with_reducible assumption | omega) (by simp only [zY,GS.some_l,List.length_set,List.length_append,List.length_cons,List.length_nil] at * <;> first | with_reducible assumption | omega)
     rw [h28] at hv_h28
     obtain ⟨hv_h28_0,hv_h28_1⟩:=hv_h28
     try dsimp only [zG] at hv_h28_0
     try dsimp only [zG] at hv_h28_1
     cases h29:decide (((yn.length:Nat):Int) > 64) with
     | true =>
      have g29:=of_decide_eq_true h29
      exact zk ((ranges_Rest_o1 r n yt)++[.inlS [1] (.tup [.sl true [] 0 none,I 2]) [(1,⟨(zq zo yt).map Sn.D,2,false⟩),(2,⟨yn.map Sn.D,2,false⟩)] 3]) (Ai (Ai (show zg [(0,⟨[I n],1,true⟩),(1,⟨yt.map Sn.D,2,false⟩)] 256 [1] []=some [1] from (by (simp only [zg,go_sem,List.length_set,Nat.reduceAdd,Nat.reduceEqDiff,Nat.reduceLT,Nat.reduceLeDiff,bI2,z8.idsL,z8.renL,z8.snapAll,z6.idsL,z6.renL,z6.snapAll]) <;> rfl)) (show (lim cfg).inl 69 [.lsl 1 0 yt.length 2 none] [(1,⟨yt.map Sn.D,2,false⟩)] 2=some (.tup [.sl true [] 0 none,I 2],[(1,⟨(zq zo yt).map Sn.D,2,false⟩),(2,⟨yn.map Sn.D,2,false⟩)],3) from po_inl [.inlS [1] (.tup []) [(1,⟨(zq zo yt).map Sn.D,2,false⟩)] 2,.gloop (zt 1 2 yt) (.exit 0) (sd40116 2 1 3 yn yt),.dec true] (Ai h29 (Ai (zZ (q:=zz yt (zq zo yt)) (lp_ranges_gathered_4p1 yt (zq zo yt) (zq zo yt) 0 (List.drop_zero) (Nat.zero_le _) (by simp only [zY,GS.some_l,List.length_set,List.length_append,List.length_cons,List.length_nil] at * <;> first | with_reducible assumption | omega) (by simp only [zY,GS.some_l,List.length_set,List.length_append,List.length_cons,List.length_nil] at * <;> first | with_reducible assumption | omega)) h28) (Ai (gc_of (C:=cfg) (f:=69) (a:=lp69_4) (ks:=[4,10,11,12]) (st:=(zK 1 2 yt)) (st1:=(zt 1 2 yt)) (by kernel_rfl) (by (simp only [zK,zt,go_sem,List.length_set,Nat.reduceAdd,Nat.reduceEqDiff,Nat.reduceLT,Nat.reduceLeDiff,bI2,z8.idsL,z8.renL,z8.snapAll,z6.idsL,z6.renL,z6.snapAll]) <;> rfl)) (Ai (Ai (show zg [(1,⟨yt.map Sn.D,2,false⟩)] 256 [1] []=some [1] from (by (simp only [zg,go_sem,List.length_set,Nat.reduceAdd,Nat.reduceEqDiff,Nat.reduceLT,Nat.reduceLeDiff,bI2,z8.idsL,z8.renL,z8.snapAll,z6.idsL,z6.renL,z6.snapAll]) <;> rfl)) (T_sort 1 2 none yt (by omega))) trivial)))) (by kernel_rfl))) (Ai p1 (Ai h2 (Ai (zr n 1 10000) (Ai h1 (Ai (zm r (by omega)) trivial)))))) (by kernel_rfl)
     | false =>
      have g29:=of_decide_eq_false h29
      exact po_pureS ((ranges_Rest_o1 r n yt)++[.inlS [1] (.tup [.lsl 2 0 yn.length 2 none,I 0]) [(1,⟨(zq zo yt).map Sn.D,2,false⟩),(2,⟨yn.map Sn.D,2,false⟩)] 3]) [(2,.sl false (yn.map Sn.D) 2 none,[2])] (Ai (snap_row (gO:=zp [(0,⟨[I n],1,true⟩),(1,⟨(zq zo yt).map Sn.D,2,false⟩),(2,⟨yn.map Sn.D,2,false⟩)]) (o:=2) (len:=yn.length) (cap:=none) (fz:=false) z6 yn (by kernel_rfl) (by omega)) (Ai (Ai (show zg [(0,⟨[I n],1,true⟩),(1,⟨yt.map Sn.D,2,false⟩)] 256 [1] []=some [1] from (by (simp only [zg,go_sem,List.length_set,Nat.reduceAdd,Nat.reduceEqDiff,Nat.reduceLT,Nat.reduceLeDiff,bI2,z8.idsL,z8.renL,z8.snapAll,z6.idsL,z6.renL,z6.snapAll]) <;> rfl)) (show (lim cfg).inl 69 [.lsl 1 0 yt.length 2 none] [(1,⟨yt.map Sn.D,2,false⟩)] 2=some (.tup [.lsl 2 0 yn.length 2 none,I 0],[(1,⟨(zq zo yt).map Sn.D,2,false⟩),(2,⟨yn.map Sn.D,2,false⟩)],3) from po_inl [.inlS [1] (.tup []) [(1,⟨(zq zo yt).map Sn.D,2,false⟩)] 2,.gloop (zt 1 2 yt) (.exit 0) (sd40116 2 1 3 yn yt),.dec false] (Ai h29 (Ai (zZ (q:=zz yt (zq zo yt)) (lp_ranges_gathered_4p1 yt (zq zo yt) (zq zo yt) 0 (List.drop_zero) (Nat.zero_le _) (by simp only [zY,GS.some_l,List.length_set,List.length_append,List.length_cons,List.length_nil] at * <;> first | with_reducible assumption | omega) (by simp only [zY,GS.some_l,List.length_set,List.length_append,List.length_cons,List.length_nil] at * <;> first | with_reducible assumption | omega)) h28) (Ai (gc_of (C:=cfg) (f:=69) (a:=lp69_4) (ks:=[4,10,11,12]) (st:=(zK 1 2 yt)) (st1:=(zt 1 2 yt)) (by kernel_rfl) (by (simp only [zK,zt,go_sem,List.length_set,Nat.reduceAdd,Nat.reduceEqDiff,Nat.reduceLT,Nat.reduceLeDiff,bI2,z8.idsL,z8.renL,z8.snapAll,z6.idsL,z6.renL,z6.snapAll]) <;> rfl)) (Ai (Ai (show zg [(1,⟨yt.map Sn.D,2,false⟩)] 256 [1] []=some [1] from (by (simp only [zg,go_sem,List.length_set,Nat.reduceAdd,Nat.reduceEqDiff,Nat.reduceLT,Nat.reduceLeDiff,bI2,z8.idsL,z8.renL,z8.snapAll,z6.idsL,z6.renL,z6.snapAll]) <;> rfl)) (T_sort 1 2 none yt (by omega))) trivial)))) (by kernel_rfl))) (Ai p1 (Ai h2 (Ai (zr n 1 10000) (Ai h1 (Ai (zm r (by omega)) trivial))))))) (by kernel_rfl)
    | x1 x6 yQ yn =>
     try dsimp only
     have hv_h28:=ivt_ranges_gathered_4p1 yt (zq zo yt) (zq zo yt) 0 (List.drop_zero) (Nat.zero_le _) (by simp only [zY,GS.some_l,List.length_set,List.length_append,List.length_cons,List.length_nil] at * <;> first | with_reducible assumption | omega) (by simp only [zY,GS.some_l,List.length_set,List.length_append,List.length_cons,List.length_nil] at * <;> first | with_reducible assumption | omega)
     rw [h28] at hv_h28
     obtain ⟨hv_h28_0,hv_h28_1⟩:=hv_h28
     try dsimp only [zG] at hv_h28_0
     try dsimp only [zG] at hv_h28_1
     exact zk ((ranges_Rest_o1 r n yt)++[.inlS [1] (.tup [.sl true [] 0 none,I 2]) [(1,⟨(zq zo yt).map Sn.D,2,false⟩),(2,⟨yn.map Sn.D,2,false⟩),(3,⟨[.agg [I yQ.lo,I yQ.hi]],2,false⟩)] 4]) (Ai (Ai (show zg [(0,⟨[I n],1,true⟩),(1,⟨yt.map Sn.D,2,false⟩)] 256 [1] []=some [1] from (by (simp only [zg,go_sem,List.length_set,Nat.reduceAdd,Nat.reduceEqDiff,Nat.reduceLT,Nat.reduceLeDiff,bI2,z8.idsL,z8.renL,z8.snapAll,z6.idsL,z6.renL,z6.snapAll]) <;> rfl)) (show (lim cfg).inl 69 [.lsl 1 0 yt.length 2 none] [(1,⟨yt.map Sn.D,2,false⟩)] 2=some (.tup [.sl true [] 0 none,I 2],[(1,⟨(zq zo yt).map Sn.D,2,false⟩),(2,⟨yn.map Sn.D,2,false⟩),(3,⟨[.agg [I yQ.lo,I yQ.hi]],2,false⟩)],4) from po_inl [.inlS [1] (.tup []) [(1,⟨(zq zo yt).map Sn.D,2,false⟩)] 2,.gloop (zt 1 2 yt) .ret (sd40117 3 1 2 4 yQ x6 yn yt)] (Ai (zZ (q:=zz yt (zq zo yt)) (lp_ranges_gathered_4p1 yt (zq zo yt) (zq zo yt) 0 (List.drop_zero) (Nat.zero_le _) (by simp only [zY,GS.some_l,List.length_set,List.length_append,List.length_cons,List.length_nil] at * <;> first | with_reducible assumption | omega) (by simp only [zY,GS.some_l,List.length_set,List.length_append,List.length_cons,List.length_nil] at * <;> first | with_reducible assumption | omega)) h28) (Ai (gc_of (C:=cfg) (f:=69) (a:=lp69_4) (ks:=[4,10,11,12]) (st:=(zK 1 2 yt)) (st1:=(zt 1 2 yt)) (by kernel_rfl) (by (simp only [zK,zt,go_sem,List.length_set,Nat.reduceAdd,Nat.reduceEqDiff,Nat.reduceLT,Nat.reduceLeDiff,bI2,z8.idsL,z8.renL,z8.snapAll,z6.idsL,z6.renL,z6.snapAll]) <;> rfl)) (Ai (Ai (show zg [(1,⟨yt.map Sn.D,2,false⟩)] 256 [1] []=some [1] from (by (simp only [zg,go_sem,List.length_set,Nat.reduceAdd,Nat.reduceEqDiff,Nat.reduceLT,Nat.reduceLeDiff,bI2,z8.idsL,z8.renL,z8.snapAll,z6.idsL,z6.renL,z6.snapAll]) <;> rfl)) (T_sort 1 2 none yt (by omega))) trivial))) (by kernel_rfl))) (Ai p1 (Ai h2 (Ai (zr n 1 10000) (Ai h1 (Ai (zm r (by omega)) trivial)))))) (by kernel_rfl)
    | x2 x6 yQ yn =>
     try dsimp only
     have hv_h28:=ivt_ranges_gathered_4p1 yt (zq zo yt) (zq zo yt) 0 (List.drop_zero) (Nat.zero_le _) (by simp only [zY,GS.some_l,List.length_set,List.length_append,List.length_cons,List.length_nil] at * <;> first | with_reducible assumption | omega) (by simp only [zY,GS.some_l,List.length_set,List.length_append,List.length_cons,List.length_nil] at * <;> first | with_reducible assumption | omega)
     rw [h28] at hv_h28
     obtain ⟨hv_h28_0,hv_h28_1⟩:=hv_h28
     try dsimp only [zG] at hv_h28_0
     try dsimp only [zG] at hv_h28_1
     exact zk ((ranges_Rest_o1 r n yt)++[.inlS [1] (.tup [.sl true [] 0 none,I 2]) [(1,⟨(zq zo yt).map Sn.D,2,false⟩),(2,⟨yn.map Sn.D,2,false⟩),(3,⟨[.agg [I yQ.lo,I yQ.hi]],2,false⟩)] 4]) (Ai (Ai (show zg [(0,⟨[I n],1,true⟩),(1,⟨yt.map Sn.D,2,false⟩)] 256 [1] []=some [1] from (by (simp only [zg,go_sem,List.length_set,Nat.reduceAdd,Nat.reduceEqDiff,Nat.reduceLT,Nat.reduceLeDiff,bI2,z8.idsL,z8.renL,z8.snapAll,z6.idsL,z6.renL,z6.snapAll]) <;> rfl)) (show (lim cfg).inl 69 [.lsl 1 0 yt.length 2 none] [(1,⟨yt.map Sn.D,2,false⟩)] 2=some (.tup [.sl true [] 0 none,I 2],[(1,⟨(zq zo yt).map Sn.D,2,false⟩),(2,⟨yn.map Sn.D,2,false⟩),(3,⟨[.agg [I yQ.lo,I yQ.hi]],2,false⟩)],4) from po_inl [.inlS [1] (.tup []) [(1,⟨(zq zo yt).map Sn.D,2,false⟩)] 2,.gloop (zt 1 2 yt) .ret (sd40118 3 1 2 4 yQ x6 yn yt)] (Ai (zZ (q:=zz yt (zq zo yt)) (lp_ranges_gathered_4p1 yt (zq zo yt) (zq zo yt) 0 (List.drop_zero) (Nat.zero_le _) (by simp only [zY,GS.some_l,List.length_set,List.length_append,List.length_cons,List.length_nil] at * <;> first | with_reducible assumption | omega) (by simp only [zY,GS.some_l,List.length_set,List.length_append,List.length_cons,List.length_nil] at * <;> first | with_reducible assumption | omega)) h28) (Ai (gc_of (C:=cfg) (f:=69) (a:=lp69_4) (ks:=[4,10,11,12]) (st:=(zK 1 2 yt)) (st1:=(zt 1 2 yt)) (by kernel_rfl) (by (simp only [zK,zt,go_sem,List.length_set,Nat.reduceAdd,Nat.reduceEqDiff,Nat.reduceLT,Nat.reduceLeDiff,bI2,z8.idsL,z8.renL,z8.snapAll,z6.idsL,z6.renL,z6.snapAll]) <;> rfl)) (Ai (Ai (show zg [(1,⟨yt.map Sn.D,2,false⟩)] 256 [1] []=some [1] from (by (simp only [zg,go_sem,List.length_set,Nat.reduceAdd,Nat.reduceEqDiff,Nat.reduceLT,Nat.reduceLeDiff,bI2,z8.idsL,z8.renL,z8.snapAll,z6.idsL,z6.renL,z6.snapAll]) <;> rfl)) (T_sort 1 2 none yt (by omega))) trivial))) (by kernel_rfl))) (Ai p1 (Ai h2 (Ai (zr n 1 10000) (Ai h1 (Ai (zm r (by omega)) trivial)))))) (by kernel_rfl)
    | x3 =>
     try dsimp only
     exact zk ((ranges_Rest_o1 r n yt)++[.inlS [1] (.tup [.sl true [] 0 none,I 0]) [(1,⟨(zq zo yt).map Sn.D,2,false⟩)] 2]) (Ai (Ai (show zg [(0,⟨[I n],1,true⟩),(1,⟨yt.map Sn.D,2,false⟩)] 256 [1] []=some [1] from (by (simp only [zg,go_sem,List.length_set,Nat.reduceAdd,Nat.reduceEqDiff,Nat.reduceLT,Nat.reduceLeDiff,bI2,z8.idsL,z8.renL,z8.snapAll,z6.idsL,z6.renL,z6.snapAll]) <;> rfl)) (show (lim cfg).inl 69 [.lsl 1 0 yt.length 2 none] [(1,⟨yt.map Sn.D,2,false⟩)] 2=some (.tup [.sl true [] 0 none,I 0],[(1,⟨(zq zo yt).map Sn.D,2,false⟩)],2) from po_inl [.inlS [1] (.tup []) [(1,⟨(zq zo yt).map Sn.D,2,false⟩)] 2,.gloop (zt 1 2 yt) (.exit 0) (sd40119 1 2 yt),.dec false] (Ai (Eq.refl false) (Ai (zZ (q:=zz yt (zq zo yt)) (lp_ranges_gathered_4p1 yt (zq zo yt) (zq zo yt) 0 (List.drop_zero) (Nat.zero_le _) (by simp only [zY,GS.some_l,List.length_set,List.length_append,List.length_cons,List.length_nil] at * <;> first | with_reducible assumption | omega) (by simp only [zY,GS.some_l,List.length_set,List.length_append,List.length_cons,List.length_nil] at * <;> first | with_reducible assumption | omega)) h28) (Ai (gc_of (C:=cfg) (f:=69) (a:=lp69_4) (ks:=[4,10,11,12]) (st:=(zK 1 2 yt)) (st1:=(zt 1 2 yt)) (by kernel_rfl) (by (simp only [zK,zt,go_sem,List.length_set,Nat.reduceAdd,Nat.reduceEqDiff,Nat.reduceLT,Nat.reduceLeDiff,bI2,z8.idsL,z8.renL,z8.snapAll,z6.idsL,z6.renL,z6.snapAll]) <;> rfl)) (Ai (Ai (show zg [(1,⟨yt.map Sn.D,2,false⟩)] 256 [1] []=some [1] from (by (simp only [zg,go_sem,List.length_set,Nat.reduceAdd,Nat.reduceEqDiff,Nat.reduceLT,Nat.reduceLeDiff,bI2,z8.idsL,z8.renL,z8.snapAll,z6.idsL,z6.renL,z6.snapAll]) <;> rfl)) (T_sort 1 2 none yt (by omega))) trivial)))) (by kernel_rfl))) (Ai p1 (Ai h2 (Ai (zr n 1 10000) (Ai h1 (Ai (zm r (by omega)) trivial)))))) (by kernel_rfl)
    | x4 x6 yQ =>
     try dsimp only
     exact zk ((ranges_Rest_o1 r n yt)++[.inlS [1] (.tup [.sl true [] 0 none,I 2]) [(1,⟨(zq zo yt).map Sn.D,2,false⟩),(2,⟨[.agg [I yQ.lo,I yQ.hi]],2,false⟩)] 3]) (Ai (Ai (show zg [(0,⟨[I n],1,true⟩),(1,⟨yt.map Sn.D,2,false⟩)] 256 [1] []=some [1] from (by (simp only [zg,go_sem,List.length_set,Nat.reduceAdd,Nat.reduceEqDiff,Nat.reduceLT,Nat.reduceLeDiff,bI2,z8.idsL,z8.renL,z8.snapAll,z6.idsL,z6.renL,z6.snapAll]) <;> rfl)) (show (lim cfg).inl 69 [.lsl 1 0 yt.length 2 none] [(1,⟨yt.map Sn.D,2,false⟩)] 2=some (.tup [.sl true [] 0 none,I 2],[(1,⟨(zq zo yt).map Sn.D,2,false⟩),(2,⟨[.agg [I yQ.lo,I yQ.hi]],2,false⟩)],3) from po_inl [.inlS [1] (.tup []) [(1,⟨(zq zo yt).map Sn.D,2,false⟩)] 2,.gloop (zt 1 2 yt) .ret (sd40120 2 1 3 yQ x6 yt)] (Ai (zZ (q:=zz yt (zq zo yt)) (lp_ranges_gathered_4p1 yt (zq zo yt) (zq zo yt) 0 (List.drop_zero) (Nat.zero_le _) (by simp only [zY,GS.some_l,List.length_set,List.length_append,List.length_cons,List.length_nil] at * <;> first | with_reducible assumption | omega) (by simp only [zY,GS.some_l,List.length_set,List.length_append,List.length_cons,List.length_nil] at * <;> first | with_reducible assumption | omega)) h28) (Ai (gc_of (C:=cfg) (f:=69) (a:=lp69_4) (ks:=[4,10,11,12]) (st:=(zK 1 2 yt)) (st1:=(zt 1 2 yt)) (by kernel_rfl) (by (simp only [zK,zt,go_sem,List.length_set,Nat.reduceAdd,Nat.reduceEqDiff,Nat.reduceLT,Nat.reduceLeDiff,bI2,z8.idsL,z8.renL,z8.snapAll,z6.idsL,z6.renL,z6.snapAll]) <;> rfl)) (Ai (Ai (show zg [(1,⟨yt.map Sn.D,2,false⟩)] 256 [1] []=some [1] from (by (simp only [zg,go_sem,List.length_set,Nat.reduceAdd,Nat.reduceEqDiff,Nat.reduceLT,Nat.reduceLeDiff,bI2,z8.idsL,z8.renL,z8.snapAll,z6.idsL,z6.renL,z6.snapAll]) <;> rfl)) (T_sort 1 2 none yt (by omega))) trivial))) (by kernel_rfl))) (Ai p1 (Ai h2 (Ai (zr n 1 10000) (Ai h1 (Ai (zm r (by omega)) trivial)))))) (by kernel_rfl)
    | x5 x6 yQ =>
     try dsimp only
     exact zk ((ranges_Rest_o1 r n yt)++[.inlS [1] (.tup [.sl true [] 0 none,I 2]) [(1,⟨(zq zo yt).map Sn.D,2,false⟩),(2,⟨[.agg [I yQ.lo,I yQ.hi]],2,false⟩)] 3]) (Ai (Ai (show zg [(0,⟨[I n],1,true⟩),(1,⟨yt.map Sn.D,2,false⟩)] 256 [1] []=some [1] from (by (simp only [zg,go_sem,List.length_set,Nat.reduceAdd,Nat.reduceEqDiff,Nat.reduceLT,Nat.reduceLeDiff,bI2,z8.idsL,z8.renL,z8.snapAll,z6.idsL,z6.renL,z6.snapAll]) <;> rfl)) (show (lim cfg).inl 69 [.lsl 1 0 yt.length 2 none] [(1,⟨yt.map Sn.D,2,false⟩)] 2=some (.tup [.sl true [] 0 none,I 2],[(1,⟨(zq zo yt).map Sn.D,2,false⟩),(2,⟨[.agg [I yQ.lo,I yQ.hi]],2,false⟩)],3) from po_inl [.inlS [1] (.tup []) [(1,⟨(zq zo yt).map Sn.D,2,false⟩)] 2,.gloop (zt 1 2 yt) .ret (sd40121 2 1 3 yQ x6 yt)] (Ai (zZ (q:=zz yt (zq zo yt)) (lp_ranges_gathered_4p1 yt (zq zo yt) (zq zo yt) 0 (List.drop_zero) (Nat.zero_le _) (by simp only [zY,GS.some_l,List.length_set,List.length_append,List.length_cons,List.length_nil] at * <;> first | with_reducible assumption | omega) (by simp only [zY,GS.some_l,List.length_set,List.length_append,List.length_cons,List.length_nil] at * <;> first | with_reducible assumption | omega)) h28) (Ai (gc_of (C:=cfg) (f:=69) (a:=lp69_4) (ks:=[4,10,11,12]) (st:=(zK 1 2 yt)) (st1:=(zt 1 2 yt)) (by kernel_rfl) (by (simp only [zK,zt,go_sem,List.length_set,Nat.reduceAdd,Nat.reduceEqDiff,Nat.reduceLT,Nat.reduceLeDiff,bI2,z8.idsL,z8.renL,z8.snapAll,z6.idsL,z6.renL,z6.snapAll]) <;> rfl)) (Ai (Ai (show zg [(1,⟨yt.map Sn.D,2,false⟩)] 256 [1] []=some [1] from (by (simp only [zg,go_sem,List.length_set,Nat.reduceAdd,Nat.reduceEqDiff,Nat.reduceLT,Nat.reduceLeDiff,bI2,z8.idsL,z8.renL,z8.snapAll,z6.idsL,z6.renL,z6.snapAll]) <;> rfl)) (T_sort 1 2 none yt (by omega))) trivial))) (by kernel_rfl))) (Ai p1 (Ai h2 (Ai (zr n 1 10000) (Ai h1 (Ai (zm r (by omega)) trivial)))))) (by kernel_rfl)
   | x1 yq =>
    try dsimp only
    have hv_h27:=ivt_ranges_each_3p4 r n r.l 0 (List.drop_zero) (Nat.zero_le _) (by omega) (by omega) (by omega) (by omega)
    rw [h27] at hv_h27
    have hv_h27_0:=hv_h27
    try dsimp only [iv_ranges_each_3p4] at hv_h27_0
    have p2:=(show (lim cfg).inl 82 [.sl r.nl (r.l.map Sn.D) (zsl r.nl 2) none,I n] [] 0=some (.lsl 1 0 yq.length 2 none,[(0,⟨[I n],1,false⟩),(1,⟨yq.map Sn.D,2,false⟩)],2) from po_inl [.inl (.lsl 1 0 yq.length 2 none) [(0,⟨[I n],1,false⟩),(1,⟨yq.map Sn.D,2,false⟩)] 2] (Ai (show (lim cfg).inl 70 [.sl r.nl (r.l.map Sn.D) (zsl r.nl 2) none,.fn (.func 106) [] [.lref 0 0 1 0]] [(0,⟨[I n],1,false⟩)] 1=some (.lsl 1 0 yq.length 2 none,[(0,⟨[I n],1,false⟩),(1,⟨yq.map Sn.D,2,false⟩)],2) from po_inl [.rw 9 (I ((r.l.length:Nat):Int)),.loop (.exit 0) (sd40133 0 1 2 yq r n)] (Ai (zZ (q:=lr_ranges_each_3p4 r n) (lp_ranges_each_3p4 r n r.l 0 (List.drop_zero) (Nat.zero_le _) (by omega) (by omega) (by omega) (by omega)) h27) (Ai (zj Sn.D r) trivial)) (by kernel_rfl)) trivial) (by kernel_rfl))
    cases h30:zQ (zq zo yq) 0 with
    | x0 yn =>
     try dsimp only
     have xK:=ivt_ranges_gathered_4p1 yq (zq zo yq) (zq zo yq) 0 (List.drop_zero) (Nat.zero_le _) (by simp only [zY,GS.some_l,List.length_set,List.length_append,List.length_cons,List.length_nil] at * <;> first | with_reducible assumption | omega) (by simp only [zY,GS.some_l,List.length_set,List.length_append,List.length_cons,List.length_nil] at * <;> first | with_reducible assumption | omega)
     rw [h30] at xK
     obtain ⟨xD,xE⟩:=xK
     try dsimp only [zG] at xD
     try dsimp only [zG] at xE
     cases h31:decide (((yn.length:Nat):Int) > 64) with
     | true =>
      have g31:=of_decide_eq_true h31
      exact zk ((ranges_Rest_o2 r n yq)++[.inlS [1] (.tup [.sl true [] 0 none,I 2]) [(1,⟨(zq zo yq).map Sn.D,2,false⟩),(2,⟨yn.map Sn.D,2,false⟩)] 3]) (Ai (Ai (show zg [(0,⟨[I n],1,false⟩),(1,⟨yq.map Sn.D,2,false⟩)] 256 [1] []=some [1] from (by (simp only [zg,go_sem,List.length_set,Nat.reduceAdd,Nat.reduceEqDiff,Nat.reduceLT,Nat.reduceLeDiff,bI2,z8.idsL,z8.renL,z8.snapAll,z6.idsL,z6.renL,z6.snapAll]) <;> rfl)) (show (lim cfg).inl 69 [.lsl 1 0 yq.length 2 none] [(1,⟨yq.map Sn.D,2,false⟩)] 2=some (.tup [.sl true [] 0 none,I 2],[(1,⟨(zq zo yq).map Sn.D,2,false⟩),(2,⟨yn.map Sn.D,2,false⟩)],3) from po_inl [.inlS [1] (.tup []) [(1,⟨(zq zo yq).map Sn.D,2,false⟩)] 2,.gloop (zt 1 2 yq) (.exit 0) (sd40116 2 1 3 yn yq),.dec true] (Ai h31 (Ai (zZ (q:=zz yq (zq zo yq)) (lp_ranges_gathered_4p1 yq (zq zo yq) (zq zo yq) 0 (List.drop_zero) (Nat.zero_le _) (by simp only [zY,GS.some_l,List.length_set,List.length_append,List.length_cons,List.length_nil] at * <;> first | with_reducible assumption | omega) (by simp only [zY,GS.some_l,List.length_set,List.length_append,List.length_cons,List.length_nil] at * <;> first | with_reducible assumption | omega)) h30) (Ai (gc_of (C:=cfg) (f:=69) (a:=lp69_4) (ks:=[4,10,11,12]) (st:=(zK 1 2 yq)) (st1:=(zt 1 2 yq)) (by kernel_rfl) (by (simp only [zK,zt,go_sem,List.length_set,Nat.reduceAdd,Nat.reduceEqDiff,Nat.reduceLT,Nat.reduceLeDiff,bI2,z8.idsL,z8.renL,z8.snapAll,z6.idsL,z6.renL,z6.snapAll]) <;> rfl)) (Ai (Ai (show zg [(1,⟨yq.map Sn.D,2,false⟩)] 256 [1] []=some [1] from (by (simp only [zg,go_sem,List.length_set,Nat.reduceAdd,Nat.reduceEqDiff,Nat.reduceLT,Nat.reduceLeDiff,bI2,z8.idsL,z8.renL,z8.snapAll,z6.idsL,z6.renL,z6.snapAll]) <;> rfl)) (T_sort 1 2 none yq (by omega))) trivial)))) (by kernel_rfl))) (Ai p2 (Ai h2 (Ai (zr n 1 10000) (Ai h1 (Ai (zm r (by omega)) trivial)))))) (by kernel_rfl)
     | false =>
      have g31:=of_decide_eq_false h31
      exact po_pureS ((ranges_Rest_o2 r n yq)++[.inlS [1] (.tup [.lsl 2 0 yn.length 2 none,I 0]) [(1,⟨(zq zo yq).map Sn.D,2,false⟩),(2,⟨yn.map Sn.D,2,false⟩)] 3]) [(2,.sl false (yn.map Sn.D) 2 none,[2])] (Ai (snap_row (gO:=zp [(0,⟨[I n],1,false⟩),(1,⟨(zq zo yq).map Sn.D,2,false⟩),(2,⟨yn.map Sn.D,2,false⟩)]) (o:=2) (len:=yn.length) (cap:=none) (fz:=false) z6 yn (by kernel_rfl) (by omega)) (Ai (Ai (show zg [(0,⟨[I n],1,false⟩),(1,⟨yq.map Sn.D,2,false⟩)] 256 [1] []=some [1] from (by (simp only [zg,go_sem,List.length_set,Nat.reduceAdd,Nat.reduceEqDiff,Nat.reduceLT,Nat.reduceLeDiff,bI2,z8.idsL,z8.renL,z8.snapAll,z6.idsL,z6.renL,z6.snapAll]) <;> rfl)) (show (lim cfg).inl 69 [.lsl 1 0 yq.length 2 none] [(1,⟨yq.map Sn.D,2,false⟩)] 2=some (.tup [.lsl 2 0 yn.length 2 none,I 0],[(1,⟨(zq zo yq).map Sn.D,2,false⟩),(2,⟨yn.map Sn.D,2,false⟩)],3) from po_inl [.inlS [1] (.tup []) [(1,⟨(zq zo yq).map Sn.D,2,false⟩)] 2,.gloop (zt 1 2 yq) (.exit 0) (sd40116 2 1 3 yn yq),.dec false] (Ai h31 (Ai (zZ (q:=zz yq (zq zo yq)) (lp_ranges_gathered_4p1 yq (zq zo yq) (zq zo yq) 0 (List.drop_zero) (Nat.zero_le _) (by simp only [zY,GS.some_l,List.length_set,List.length_append,List.length_cons,List.length_nil] at * <;> first | with_reducible assumption | omega) (by simp only [zY,GS.some_l,List.length_set,List.length_append,List.length_cons,List.length_nil] at * <;> first | with_reducible assumption | omega)) h30) (Ai (gc_of (C:=cfg) (f:=69) (a:=lp69_4) (ks:=[4,10,11,12]) (st:=(zK 1 2 yq)) (st1:=(zt 1 2 yq)) (by kernel_rfl) (by (simp only [zK,zt,go_sem,List.length_set,Nat.reduceAdd,Nat.reduceEqDiff,Nat.reduceLT,Nat.reduceLeDiff,bI2,z8.idsL,z8.renL,z8.snapAll,z6.idsL,z6.renL,z6.snapAll]) <;> rfl)) (Ai (Ai (show zg [(1,⟨yq.map Sn.D,2,false⟩)] 256 [1] []=some [1] from (by (simp only [zg,go_sem,List.length_set,Nat.reduceAdd,Nat.reduceEqDiff,Nat.reduceLT,Nat.reduceLeDiff,bI2,z8.idsL,z8.renL,z8.snapAll,z6.idsL,z6.renL,z6.snapAll]) <;> rfl)) (T_sort 1 2 none yq (by omega))) trivial)))) (by kernel_rfl))) (Ai p2 (Ai h2 (Ai (zr n 1 10000) (Ai h1 (Ai (zm r (by omega)) trivial))))))) (by kernel_rfl)
    | x1 x6 yQ yn =>
     try dsimp only
     have xK:=ivt_ranges_gathered_4p1 yq (zq zo yq) (zq zo yq) 0 (List.drop_zero) (Nat.zero_le _) (by simp only [zY,GS.some_l,List.length_set,List.length_append,List.length_cons,List.length_nil] at * <;> first | with_reducible assumption | omega) (by simp only [zY,GS.some_l,List.length_set,List.length_append,List.length_cons,List.length_nil] at * <;> first | with_reducible assumption | omega)
     rw [h30] at xK
     obtain ⟨xD,xE⟩:=xK
     try dsimp only [zG] at xD
     try dsimp only [zG] at xE
     exact zk ((ranges_Rest_o2 r n yq)++[.inlS [1] (.tup [.sl true [] 0 none,I 2]) [(1,⟨(zq zo yq).map Sn.D,2,false⟩),(2,⟨yn.map Sn.D,2,false⟩),(3,⟨[.agg [I yQ.lo,I yQ.hi]],2,false⟩)] 4]) (Ai (Ai (show zg [(0,⟨[I n],1,false⟩),(1,⟨yq.map Sn.D,2,false⟩)] 256 [1] []=some [1] from (by (simp only [zg,go_sem,List.length_set,Nat.reduceAdd,Nat.reduceEqDiff,Nat.reduceLT,Nat.reduceLeDiff,bI2,z8.idsL,z8.renL,z8.snapAll,z6.idsL,z6.renL,z6.snapAll]) <;> rfl)) (show (lim cfg).inl 69 [.lsl 1 0 yq.length 2 none] [(1,⟨yq.map Sn.D,2,false⟩)] 2=some (.tup [.sl true [] 0 none,I 2],[(1,⟨(zq zo yq).map Sn.D,2,false⟩),(2,⟨yn.map Sn.D,2,false⟩),(3,⟨[.agg [I yQ.lo,I yQ.hi]],2,false⟩)],4) from po_inl [.inlS [1] (.tup []) [(1,⟨(zq zo yq).map Sn.D,2,false⟩)] 2,.gloop (zt 1 2 yq) .ret (sd40117 3 1 2 4 yQ x6 yn yq)] (Ai (zZ (q:=zz yq (zq zo yq)) (lp_ranges_gathered_4p1 yq (zq zo yq) (zq zo yq) 0 (List.drop_zero) (Nat.zero_le _) (by simp only [zY,GS.some_l,List.length_set,List.length_append,List.length_cons,List.length_nil] at * <;> first | with_reducible assumption | omega) (by simp only [zY,GS.some_l,List.length_set,List.length_append,List.length_cons,List.length_nil] at * <;> first | with_reducible assumption | omega)) h30) (Ai (gc_of (C:=cfg) (f:=69) (a:=lp69_4) (ks:=[4,10,11,12]) (st:=(zK 1 2 yq)) (st1:=(zt 1 2 yq)) (by kernel_rfl) (by (simp only [zK,zt,go_sem,List.length_set,Nat.reduceAdd,Nat.reduceEqDiff,Nat.reduceLT,Nat.reduceLeDiff,bI2,z8.idsL,z8.renL,z8.snapAll,z6.idsL,z6.renL,z6.snapAll]) <;> rfl)) (Ai (Ai (show zg [(1,⟨yq.map Sn.D,2,false⟩)] 256 [1] []=some [1] from (by (simp only [zg,go_sem,List.length_set,Nat.reduceAdd,Nat.reduceEqDiff,Nat.reduceLT,Nat.reduceLeDiff,bI2,z8.idsL,z8.renL,z8.snapAll,z6.idsL,z6.renL,z6.snapAll]) <;> rfl)) (T_sort 1 2 none yq (by omega))) trivial))) (by kernel_rfl))) (Ai p2 (Ai h2 (Ai (zr n 1 10000) (Ai h1 (Ai (zm r (by omega)) trivial)))))) (by kernel_rfl)
    | x2 x6 yQ yn =>
     try dsimp only
     have xK:=ivt_ranges_gathered_4p1 yq (zq zo yq) (zq zo yq) 0 (List.drop_zero) (Nat.zero_le _) (by simp only [zY,GS.some_l,List.length_set,List.length_append,List.length_cons,List.length_nil] at * <;> first | with_reducible assumption | omega) (by simp only [zY,GS.some_l,List.length_set,List.length_append,List.length_cons,List.length_nil] at * <;> first | with_reducible assumption | omega)
     rw [h30] at xK
     obtain ⟨xD,xE⟩:=xK
     try dsimp only [zG] at xD
     try dsimp only [zG] at xE
     exact zk ((ranges_Rest_o2 r n yq)++[.inlS [1] (.tup [.sl true [] 0 none,I 2]) [(1,⟨(zq zo yq).map Sn.D,2,false⟩),(2,⟨yn.map Sn.D,2,false⟩),(3,⟨[.agg [I yQ.lo,I yQ.hi]],2,false⟩)] 4]) (Ai (Ai (show zg [(0,⟨[I n],1,false⟩),(1,⟨yq.map Sn.D,2,false⟩)] 256 [1] []=some [1] from (by (simp only [zg,go_sem,List.length_set,Nat.reduceAdd,Nat.reduceEqDiff,Nat.reduceLT,Nat.reduceLeDiff,bI2,z8.idsL,z8.renL,z8.snapAll,z6.idsL,z6.renL,z6.snapAll]) <;> rfl)) (show (lim cfg).inl 69 [.lsl 1 0 yq.length 2 none] [(1,⟨yq.map Sn.D,2,false⟩)] 2=some (.tup [.sl true [] 0 none,I 2],[(1,⟨(zq zo yq).map Sn.D,2,false⟩),(2,⟨yn.map Sn.D,2,false⟩),(3,⟨[.agg [I yQ.lo,I yQ.hi]],2,false⟩)],4) from po_inl [.inlS [1] (.tup []) [(1,⟨(zq zo yq).map Sn.D,2,false⟩)] 2,.gloop (zt 1 2 yq) .ret (sd40118 3 1 2 4 yQ x6 yn yq)] (Ai (zZ (q:=zz yq (zq zo yq)) (lp_ranges_gathered_4p1 yq (zq zo yq) (zq zo yq) 0 (List.drop_zero) (Nat.zero_le _) (by simp only [zY,GS.some_l,List.length_set,List.length_append,List.length_cons,List.length_nil] at * <;> first | with_reducible assumption | omega) (by simp only [zY,GS.some_l,List.length_set,List.length_append,List.length_cons,List.length_nil] at * <;> first | with_reducible assumption | omega)) h30) (Ai (gc_of (C:=cfg) (f:=69) (a:=lp69_4) (ks:=[4,10,11,12]) (st:=(zK 1 2 yq)) (st1:=(zt 1 2 yq)) (by kernel_rfl) (by (simp only [zK,zt,go_sem,List.length_set,Nat.reduceAdd,Nat.reduceEqDiff,Nat.reduceLT,Nat.reduceLeDiff,bI2,z8.idsL,z8.renL,z8.snapAll,z6.idsL,z6.renL,z6.snapAll]) <;> rfl)) (Ai (Ai (show zg [(1,⟨yq.map Sn.D,2,false⟩)] 256 [1] []=some [1] from (by (simp only [zg,go_sem,List.length_set,Nat.reduceAdd,Nat.reduceEqDiff,Nat.reduceLT,Nat.reduceLeDiff,bI2,z8.idsL,z8.renL,z8.snapAll,z6.idsL,z6.renL,z6.snapAll]) <;> rfl)) (T_sort 1 2 none yq (by omega))) trivial))) (by kernel_rfl))) (Ai p2 (Ai h2 (Ai (zr n 1 10000) (Ai h1 (Ai (zm r (by omega)) trivial)))))) (by kernel_rfl)
    | x3 =>
     try dsimp only
     exact zk ((ranges_Rest_o2 r n yq)++[.inlS [1] (.tup [.sl true [] 0 none,I 0]) [(1,⟨(zq zo yq).map Sn.D,2,false⟩)] 2]) (Ai (Ai (show zg [(0,⟨[I n],1,false⟩),(1,⟨yq.map Sn.D,2,false⟩)] 256 [1] []=some [1] from (by (simp only [zg,go_sem,List.length_set,Nat.reduceAdd,Nat.reduceEqDiff,Nat.reduceLT,Nat.reduceLeDiff,bI2,z8.idsL,z8.renL,z8.snapAll,z6.idsL,z6.renL,z6.snapAll]) <;> rfl)) (show (lim cfg).inl 69 [.lsl 1 0 yq.length 2 none] [(1,⟨yq.map Sn.D,2,false⟩)] 2=some (.tup [.sl true [] 0 none,I 0],[(1,⟨(zq zo yq).map Sn.D,2,false⟩)],2) from po_inl [.inlS [1] (.tup []) [(1,⟨(zq zo yq).map Sn.D,2,false⟩)] 2,.gloop (zt 1 2 yq) (.exit 0) (sd40119 1 2 yq),.dec false] (Ai (Eq.refl false) (Ai (zZ (q:=zz yq (zq zo yq)) (lp_ranges_gathered_4p1 yq (zq zo yq) (zq zo yq) 0 (List.drop_zero) (Nat.zero_le _) (by simp only [zY,GS.some_l,List.length_set,List.length_append,List.length_cons,List.length_nil] at * <;> first | with_reducible assumption | omega) (by simp only [zY,GS.some_l,List.length_set,List.length_append,List.length_cons,List.length_nil] at * <;> first | with_reducible assumption | omega)) h30) (Ai (gc_of (C:=cfg) (f:=69) (a:=lp69_4) (ks:=[4,10,11,12]) (st:=(zK 1 2 yq)) (st1:=(zt 1 2 yq)) (by kernel_rfl) (by (simp only [zK,zt,go_sem,List.length_set,Nat.reduceAdd,Nat.reduceEqDiff,Nat.reduceLT,Nat.reduceLeDiff,bI2,z8.idsL,z8.renL,z8.snapAll,z6.idsL,z6.renL,z6.snapAll]) <;> rfl)) (Ai (Ai (show zg [(1,⟨yq.map Sn.D,2,false⟩)] 256 [1] []=some [1] from (by (simp only [zg,go_sem,List.length_set,Nat.reduceAdd,Nat.reduceEqDiff,Nat.reduceLT,Nat.reduceLeDiff,bI2,z8.idsL,z8.renL,z8.snapAll,z6.idsL,z6.renL,z6.snapAll]) <;> rfl)) (T_sort 1 2 none yq (by omega))) trivial)))) (by kernel_rfl))) (Ai p2 (Ai h2 (Ai (zr n 1 10000) (Ai h1 (Ai (zm r (by omega)) trivial)))))) (by kernel_rfl)
    | x4 x6 yQ =>
     try dsimp only
     exact zk ((ranges_Rest_o2 r n yq)++[.inlS [1] (.tup [.sl true [] 0 none,I 2]) [(1,⟨(zq zo yq).map Sn.D,2,false⟩),(2,⟨[.agg [I yQ.lo,I yQ.hi]],2,false⟩)] 3]) (Ai (Ai (show zg [(0,⟨[I n],1,false⟩),(1,⟨yq.map Sn.D,2,false⟩)] 256 [1] []=some [1] from (by (simp only [zg,go_sem,List.length_set,Nat.reduceAdd,Nat.reduceEqDiff,Nat.reduceLT,Nat.reduceLeDiff,bI2,z8.idsL,z8.renL,z8.snapAll,z6.idsL,z6.renL,z6.snapAll]) <;> rfl)) (show (lim cfg).inl 69 [.lsl 1 0 yq.length 2 none] [(1,⟨yq.map Sn.D,2,false⟩)] 2=some (.tup [.sl true [] 0 none,I 2],[(1,⟨(zq zo yq).map Sn.D,2,false⟩),(2,⟨[.agg [I yQ.lo,I yQ.hi]],2,false⟩)],3) from po_inl [.inlS [1] (.tup []) [(1,⟨(zq zo yq).map Sn.D,2,false⟩)] 2,.gloop (zt 1 2 yq) .ret (sd40120 2 1 3 yQ x6 yq)] (Ai (zZ (q:=zz yq (zq zo yq)) (lp_ranges_gathered_4p1 yq (zq zo yq) (zq zo yq) 0 (List.drop_zero) (Nat.zero_le _) (by simp only [zY,GS.some_l,List.length_set,List.length_append,List.length_cons,List.length_nil] at * <;> first | with_reducible assumption | omega) (by simp only [zY,GS.some_l,List.length_set,List.length_append,List.length_cons,List.length_nil] at * <;> first | with_reducible assumption | omega)) h30) (Ai (gc_of (C:=cfg) (f:=69) (a:=lp69_4) (ks:=[4,10,11,12]) (st:=(zK 1 2 yq)) (st1:=(zt 1 2 yq)) (by kernel_rfl) (by (simp only [zK,zt,go_sem,List.length_set,Nat.reduceAdd,Nat.reduceEqDiff,Nat.reduceLT,Nat.reduceLeDiff,bI2,z8.idsL,z8.renL,z8.snapAll,z6.idsL,z6.renL,z6.snapAll]) <;> rfl)) (Ai (Ai (show zg [(1,⟨yq.map Sn.D,2,false⟩)] 256 [1] []=some [1] from (by (simp only [zg,go_sem,List.length_set,Nat.reduceAdd,Nat.reduceEqDiff,Nat.reduceLT,Nat.reduceLeDiff,bI2,z8.idsL,z8.renL,z8.snapAll,z6.idsL,z6.renL,z6.snapAll]) <;> rfl)) (T_sort 1 2 none yq (by omega))) trivial))) (by kernel_rfl))) (Ai p2 (Ai h2 (Ai (zr n 1 10000) (Ai h1 (Ai (zm r (by omega)) trivial)))))) (by kernel_rfl)
    | x5 x6 yQ =>
     try dsimp only
     exact zk ((ranges_Rest_o2 r n yq)++[.inlS [1] (.tup [.sl true [] 0 none,I 2]) [(1,⟨(zq zo yq).map Sn.D,2,false⟩),(2,⟨[.agg [I yQ.lo,I yQ.hi]],2,false⟩)] 3]) (Ai (Ai (show zg [(0,⟨[I n],1,false⟩),(1,⟨yq.map Sn.D,2,false⟩)] 256 [1] []=some [1] from (by (simp only [zg,go_sem,List.length_set,Nat.reduceAdd,Nat.reduceEqDiff,Nat.reduceLT,Nat.reduceLeDiff,bI2,z8.idsL,z8.renL,z8.snapAll,z6.idsL,z6.renL,z6.snapAll]) <;> rfl)) (show (lim cfg).inl 69 [.lsl 1 0 yq.length 2 none] [(1,⟨yq.map Sn.D,2,false⟩)] 2=some (.tup [.sl true [] 0 none,I 2],[(1,⟨(zq zo yq).map Sn.D,2,false⟩),(2,⟨[.agg [I yQ.lo,I yQ.hi]],2,false⟩)],3) from po_inl [.inlS [1] (.tup []) [(1,⟨(zq zo yq).map Sn.D,2,false⟩)] 2,.gloop (zt 1 2 yq) .ret (sd40121 2 1 3 yQ x6 yq)] (Ai (zZ (q:=zz yq (zq zo yq)) (lp_ranges_gathered_4p1 yq (zq zo yq) (zq zo yq) 0 (List.drop_zero) (Nat.zero_le _) (by simp only [zY,GS.some_l,List.length_set,List.length_append,List.length_cons,List.length_nil] at * <;> first | with_reducible assumption | omega) (by simp only [zY,GS.some_l,List.length_set,List.length_append,List.length_cons,List.length_nil] at * <;> first | with_reducible assumption | omega)) h30) (Ai (gc_of (C:=cfg) (f:=69) (a:=lp69_4) (ks:=[4,10,11,12]) (st:=(zK 1 2 yq)) (st1:=(zt 1 2 yq)) (by kernel_rfl) (by (simp only [zK,zt,go_sem,List.length_set,Nat.reduceAdd,Nat.reduceEqDiff,Nat.reduceLT,Nat.reduceLeDiff,bI2,z8.idsL,z8.renL,z8.snapAll,z6.idsL,z6.renL,z6.snapAll]) <;> rfl)) (Ai (Ai (show zg [(1,⟨yq.map Sn.D,2,false⟩)] 256 [1] []=some [1] from (by (simp only [zg,go_sem,List.length_set,Nat.reduceAdd,Nat.reduceEqDiff,Nat.reduceLT,Nat.reduceLeDiff,bI2,z8.idsL,z8.renL,z8.snapAll,z6.idsL,z6.renL,z6.snapAll]) <;> rfl)) (T_sort 1 2 none yq (by omega))) trivial))) (by kernel_rfl))) (Ai p2 (Ai h2 (Ai (zr n 1 10000) (Ai h1 (Ai (zm r (by omega)) trivial)))))) (by kernel_rfl)
   | x2 =>
    try dsimp only
    exact zk [.pure (I (zC r)),.dec false,.pure (B (ranges_in n 1 10000)),.dec true,.inl (.sl true [] 0 none) [(0,⟨[I n],1,true⟩)] 1,.inl (.tup [.sl true [] 0 none,I 0]) [] 1] (Ai (show (lim cfg).inl 69 [.sl true [] 0 none] [] 1=some (.tup [.sl true [] 0 none,I 0],[],1) from po_inl [.inl (.tup []) [] 1,.loop (.exit 0) ⟨65,[(13,B false),(4,.sl true [] 0 none),(10,.sl true [] 0 none),(11,I 0),(12,I 0)],[],1,1⟩,.dec false] (Ai (Eq.refl false) (Ai (show (lim cfg).loop 69 lp69_4 ⟨65,[(4,.sl true [] 0 none),(10,.sl true [] 0 none),(11,I 0),(12,I 0)],[],1,1⟩=some ((.exit 0),⟨65,[(13,B false),(4,.sl true [] 0 none),(10,.sl true [] 0 none),(11,I 0),(12,I 0)],[],1,1⟩) from (zF [.dec false] (Ai (Eq.refl false) trivial) (by kernel_rfl))) (Ai (T_sort_nil 1) trivial))) (by kernel_rfl)) (Ai (show (lim cfg).inl 82 [.sl r.nl (r.l.map Sn.D) (zsl r.nl 2) none,I n] [] 0=some (.sl true [] 0 none,[(0,⟨[I n],1,true⟩)],1) from po_inl [.inl (.sl true [] 0 none) [(0,⟨[I n],1,true⟩)] 1] (Ai (show (lim cfg).inl 70 [.sl r.nl (r.l.map Sn.D) (zsl r.nl 2) none,.fn (.func 106) [] [.lref 0 0 1 0]] [(0,⟨[I n],1,false⟩)] 1=some (.sl true [] 0 none,[(0,⟨[I n],1,true⟩)],1) from po_inl [.rw 9 (I ((r.l.length:Nat):Int)),.loop (.exit 0) (sd40134 0 1 r n)] (Ai (zZ (q:=lr_ranges_each_3p4 r n) (lp_ranges_each_3p4 r n r.l 0 (List.drop_zero) (Nat.zero_le _) (by omega) (by omega) (by omega) (by omega)) h27) (Ai (zj Sn.D r) trivial)) (by kernel_rfl)) trivial) (by kernel_rfl)) (Ai h2 (Ai (zr n 1 10000) (Ai h1 (Ai (zm r (by omega)) trivial)))))) (by kernel_rfl)
   | x3 =>
    try dsimp only
    exact zk [.pure (I (zC r)),.dec false,.pure (B (ranges_in n 1 10000)),.dec true,.inl (.sl true [] 0 none) [(0,⟨[I n],1,false⟩)] 1,.inl (.tup [.sl true [] 0 none,I 0]) [] 1] (Ai (show (lim cfg).inl 69 [.sl true [] 0 none] [] 1=some (.tup [.sl true [] 0 none,I 0],[],1) from po_inl [.inl (.tup []) [] 1,.loop (.exit 0) ⟨65,[(13,B false),(4,.sl true [] 0 none),(10,.sl true [] 0 none),(11,I 0),(12,I 0)],[],1,1⟩,.dec false] (Ai (Eq.refl false) (Ai (show (lim cfg).loop 69 lp69_4 ⟨65,[(4,.sl true [] 0 none),(10,.sl true [] 0 none),(11,I 0),(12,I 0)],[],1,1⟩=some ((.exit 0),⟨65,[(13,B false),(4,.sl true [] 0 none),(10,.sl true [] 0 none),(11,I 0),(12,I 0)],[],1,1⟩) from (zF [.dec false] (Ai (Eq.refl false) trivial) (by kernel_rfl))) (Ai (T_sort_nil 1) trivial))) (by kernel_rfl)) (Ai (show (lim cfg).inl 82 [.sl r.nl (r.l.map Sn.D) (zsl r.nl 2) none,I n] [] 0=some (.sl true [] 0 none,[(0,⟨[I n],1,false⟩)],1) from po_inl [.inl (.sl true [] 0 none) [(0,⟨[I n],1,false⟩)] 1] (Ai (show (lim cfg).inl 70 [.sl r.nl (r.l.map Sn.D) (zsl r.nl 2) none,.fn (.func 106) [] [.lref 0 0 1 0]] [(0,⟨[I n],1,false⟩)] 1=some (.sl true [] 0 none,[(0,⟨[I n],1,false⟩)],1) from po_inl [.rw 9 (I ((r.l.length:Nat):Int)),.loop (.exit 0) (sd40135 0 1 r n)] (Ai (zZ (q:=lr_ranges_each_3p4 r n) (lp_ranges_each_3p4 r n r.l 0 (List.drop_zero) (Nat.zero_le _) (by omega) (by omega) (by omega) (by omega)) h27) (Ai (zj Sn.D r) trivial)) (by kernel_rfl)) trivial) (by kernel_rfl)) (Ai h2 (Ai (zr n 1 10000) (Ai h1 (Ai (zm r (by omega)) trivial)))))) (by kernel_rfl)
  | false =>
   exact zk [.pure (I (zC r)),.dec false,.pure (B (ranges_in n 1 10000)),.dec false] (Ai h2 (Ai (zr n 1 10000) (Ai h1 (Ai (zm r (by omega)) trivial)))) (by kernel_rfl)
end Go.VS

namespace Go.VS
open Go Go.Proofs
set_option maxHeartbeats 0
set_option linter.unusedSimpArgs false
set_option linter.unusedVariables false
theorem make_op {α:Type} {C:Cfg} {t:TypeId} {te:Ty} {nxt sz:Nat} {n:Int} {f:α→VS.D} (z:α) (h1:sliceElem C t=some te) (hz:zeroD te=f z) (h5:zeroOk te=true) (h7:te.size=sz) (hn:0≤n) (hb:n.toNat * te.bytes≤big∧n≤(big:Int)) :
  evMakeSlice C nxt t (I n) (I n)=some ⟨.lsl nxt 0 n.toNat sz none,[(nxt,some ⟨(List.replicate n.toNat z).map f,sz,false⟩)],[],nxt+1⟩:=by
 subst h7
 simp [evMakeSlice,h1,i64Of,I,hn,hb.1,hb.2,h5,newOb,List.map_replicate,hz]

theorem eok_B:EncOK 1 B:=⟨fun _ _ _=>rfl,fun _ _=>rfl,fun _ _ _=>rfl,fun _=>⟨rfl,rfl⟩⟩

def sd40092 (ν0 ν1 ν2:Nat) (μ0:Sn) (μ1:Int) (μ2:Int) (μ3:GS Sn) (μ4:Nat) (μ5:List Bool):St:=⟨40,[(24,B false),(23,I μ0.hi),(22,.lref ν0 0 2 1),(21,I μ1),(5,.lsl ν1 0 ((μ2).toNat) 1 none),(7,.lref ν0 0 2 0),(8,I μ1),(13,.sl μ3.nl (μ3.l.map Sn.D) (zsl μ3.nl 2) none),(14,I ((μ3.l.length:Nat):Int)),(15,I ((μ4:Nat):Int))],[(ν1,⟨μ5.map B,1,false⟩),(ν0,⟨[.agg [I μ0.lo,I μ0.hi]],2,false⟩)],ν2,ν1⟩

noncomputable def lp83_6:Code:=subC [1,1,0,1,0,0,1,1,0,0,1,1,0,0] (bodyC Tryz.f83)

def sd40093 (ν0 ν1 ν2:Nat) (μ0:Int) (μ1:Int) (μ2:Sn) (μ3:GS Sn) (μ4:Nat) (μ5:List Bool):St:=⟨40,[(8,I (w64 (μ0+1))),(26,I (w64 (μ0+1))),(25,I μ0),(29,.lref ν0 ((μ0).toNat) 1 0),(28,I μ0),(27,.lsl ν0 0 ((μ1).toNat) 1 none),(24,B true),(23,I μ2.hi),(22,.lref ν1 0 2 1),(21,I μ0),(5,.lsl ν0 0 ((μ1).toNat) 1 none),(7,.lref ν1 0 2 0),(8,I μ0),(13,.sl μ3.nl (μ3.l.map Sn.D) (zsl μ3.nl 2) none),(14,I ((μ3.l.length:Nat):Int)),(15,I ((μ4:Nat):Int))],[(ν0,⟨(μ5.set ((μ0).toNat) true).map B,1,false⟩),(ν1,⟨[.agg [I μ2.lo,I μ2.hi]],2,false⟩)],ν2,ν0⟩

inductive LR_ranges_full_6 where
 | x0 (xP:Int) (v6_1:List Bool)
 | out
instance:Inhabited LR_ranges_full_6:=⟨.out⟩
def ranges_full_6 (x3:Sn):Nat→Int→(List Bool)→LR_ranges_full_6
 | 0,_,_=>.out
 | rest6+1,xP,v6_1 =>
  bif decide (xP≤x3.hi) then
   ranges_full_6 x3 rest6 (w64 (xP+1)) (v6_1.set ((xP).toNat) true)
  else
   .x0 xP v6_1
def lr_ranges_full_6 (l:GS Sn) (n:Int) (i3:Nat) (x3:Sn):LR_ranges_full_6→Exit × St
 | .x0 xP v6_1=>((.exit 2),(sd40092 1 0 2 x3 xP n l i3 v6_1))
 | .out=>(.normal,⟨0,[],[],0,0⟩)
def iv_ranges_full_6 (l:GS Sn) (n:Int) (i3:Nat) (x3:Sn):LR_ranges_full_6→Prop
 | .x0 xP v6_1=>(x3.lo≤xP∧xP≤x3.hi+1)∧(v6_1.length=((n).toNat))
 | .out=>True
theorem lp_ranges_full_6 (l:GS Sn) (n:Int) (i3:Nat) (x3:Sn):∀ (rest6:Nat) (xP:Int) (v6_1:List Bool) (hf6:ranges_full_6 x3 rest6 xP v6_1 ≠ .out) (hn:1≤n∧n≤10000) (hx6:0≤x3.lo∧x3.lo≤x3.hi∧x3.hi < n) (hi0:x3.lo≤xP∧xP≤x3.hi+1) (hl6_v6_1:v6_1.length=((n).toNat)),(lim cfg).loop 83 lp83_6 ⟨40,[(5,.lsl 0 0 ((n).toNat) 1 none),(7,.lref 1 0 2 0),(8,I xP),(13,.sl l.nl (l.l.map Sn.D) (zsl l.nl 2) none),(14,I ((l.l.length:Nat):Int)),(15,I ((i3:Nat):Int))],[(0,⟨v6_1.map B,1,false⟩),(1,⟨[.agg [I x3.lo,I x3.hi]],2,false⟩)],2,0⟩=some (lr_ranges_full_6 l n i3 x3 (ranges_full_6 x3 rest6 xP v6_1)):=by
 intro rest6
 induction rest6 with
 | zero =>
  intro xP v6_1 hf6 hn hx6 hi0 hl6_v6_1
  exact absurd rfl hf6
 | succ rest6 ih =>
  intro xP v6_1 hf6 hn hx6 hi0 hl6_v6_1
  unfold ranges_full_6 at hf6 ⊢
  revert hf6
  cases h5:decide (xP≤x3.hi) with
  | true =>
   have g5:=of_decide_eq_true h5
   intro hf6
   exact zv (ks:=[5,7,8,13,14,15]) (st':=(sd40093 0 1 2 xP n x3 l i3 v6_1)) [.dec true,.op (some 29) ⟨.lref 0 ((xP).toNat) 1 0,[],[],2⟩,.stS 0 ⟨.tup [],[(0,some ⟨(v6_1.set ((xP).toNat) true).map B,1,false⟩)],[0],2⟩] (Ai (store_row (C:=cfg) (objs:=[(0,⟨v6_1.map B,1,false⟩),(1,⟨[.agg [I x3.lo,I x3.hi]],2,false⟩)]) (nxt:=2) (t:=4) (ty:=ty4) (o:=0) (n:=(xP).toNat) (sz:=1) (sub:=0) (els:=v6_1.map B) (els':=(v6_1.set ((xP).toNat) true).map B) (e:=B (v6_1.getD ((xP).toNat) default)) (e':=B true) (v:=B true) (by kernel_rfl) (by kernel_rfl) (row_get (f:=B) (by omega)) rfl (by kernel_rfl) rfl (by kernel_rfl) (row_set (f:=B))) (Ai (idx_row (C:=cfg) (nxt:=2) (t:=103) (ty:=ty103) (te:=ty4) (e:=4) (o:=0) (len:=((n).toNat)) (sz:=1) (cap:=none) (i:=xP) (by kernel_rfl) rfl (by kernel_rfl) rfl (by omega) (by omega)) (Ai h5 trivial))) (by kernel_rfl) (by (simp only [sd40093,go_sem,List.length_set,Nat.reduceAdd,Nat.reduceEqDiff,Nat.reduceLT,Nat.reduceLeDiff,bI2,eok_B.idsL,eok_B.renL,eok_B.snapAll,z8.idsL,z8.renL,z8.snapAll,z6.idsL,z6.renL,z6.snapAll]) <;> rfl) (ih (w64 (xP+1)) (v6_1.set ((xP).toNat) true) hf6 (by omega) (by omega) (by simp only [List.length_append,List.length_cons,List.length_nil,zi] at * <;> omega) (by simp only [List.length_set] at * <;> omega)) (by kernel_rfl)
  | false =>
   have g5:=of_decide_eq_false h5
   intro hf6
   exact zF [.dec false] (Ai h5 trivial) (by kernel_rfl)
theorem ivt_ranges_full_6 (l:GS Sn) (n:Int) (i3:Nat) (x3:Sn):∀ (rest6:Nat) (xP:Int) (v6_1:List Bool) (hf6:ranges_full_6 x3 rest6 xP v6_1 ≠ .out) (hn:1≤n∧n≤10000) (hx6:0≤x3.lo∧x3.lo≤x3.hi∧x3.hi < n) (hi0:x3.lo≤xP∧xP≤x3.hi+1) (hl6_v6_1:v6_1.length=((n).toNat)),iv_ranges_full_6 l n i3 x3 (ranges_full_6 x3 rest6 xP v6_1):=by
 intro rest6
 induction rest6 with
 | zero =>
  intro xP v6_1 hf6 hn hx6 hi0 hl6_v6_1
  exact absurd rfl hf6
 | succ rest6 ih =>
  intro xP v6_1 hf6 hn hx6 hi0 hl6_v6_1
  unfold ranges_full_6 at hf6 ⊢
  revert hf6
  cases h5:decide (xP≤x3.hi) with
  | true =>
   have g5:=of_decide_eq_true h5
   intro hf6
   exact ih (w64 (xP+1)) (v6_1.set ((xP).toNat) true) hf6 (by omega) (by omega) (by simp only [List.length_append,List.length_cons,List.length_nil,zi] at * <;> omega) (by simp only [List.length_set] at * <;> omega)
  | false =>
   have g5:=of_decide_eq_false h5
   intro hf6
   exact ⟨hi0,hl6_v6_1⟩

theorem full_ne' (x:Sn) (hx:x.hi < 10000):∀ (f:Nat) (i:Int) (v:List Bool),0≤i→i≤x.hi+1→x.hi - i+1 < f→ranges_full_6 x f i v ≠ .out
 | 0,i,v,h0,h1,h=>by omega
 | f+1,i,v,h0,h1,h=>by
  unfold ranges_full_6
  by_cases hc:i≤x.hi
  ·rw [decide_eq_true hc,y7 (n:=i+1) (by omega) (by omega)]
   exact full_ne' x hx f _ _ (by omega) (by omega) (by omega)
  ·rw [decide_eq_false hc]; intro z; cases z
theorem full_ne (x:Sn) (v:List Bool) (h:0≤x.lo∧x.lo≤x.hi∧x.hi < 10000):ranges_full_6 x ((x.hi - x.lo).toNat+2) x.lo v ≠ .out:=full_ne' x h.2.2 _ _ _ h.1 (by omega) (by omega)

def sd40096 (ν0 ν1:Nat) (μ0:Int) (μ1:GS Sn) (μ2:List Bool):St:=⟨40,[(16,B false),(5,.lsl ν0 0 ((μ0).toNat) 1 none),(13,.sl μ1.nl (μ1.l.map Sn.D) (zsl μ1.nl 2) none),(14,I ((μ1.l.length:Nat):Int)),(15,I ((μ1.l.length:Nat):Int))],[(ν0,⟨μ2.map B,1,false⟩)],ν1,ν0⟩

noncomputable def lp83_3:Code:=subC [1,1,0,1,0,0] (bodyC Tryz.f83)

def sd40097 (ν0 ν1 ν2:Nat) (μ0:Nat) (μ1:Sn) (μ2:Int) (μ3:Int) (μ4:GS Sn) (μ5:List Bool):St:=⟨40,[(15,I ((μ0+1:Nat):Int)),(30,I ((μ0+1:Nat):Int)),(24,B false),(23,I μ1.hi),(22,.lref ν0 0 2 1),(21,I μ2),(5,.lsl ν1 0 ((μ3).toNat) 1 none),(7,.lref ν0 0 2 0),(8,I μ2),(13,.sl μ4.nl (μ4.l.map Sn.D) (zsl μ4.nl 2) none),(14,I ((μ4.l.length:Nat):Int)),(15,I ((μ0:Nat):Int))],[(ν1,⟨μ5.map B,1,false⟩),(ν0,⟨[.agg [I μ1.lo,I μ1.hi]],2,false⟩)],ν2,ν1⟩

def sd40095 (ν0 ν1 ν2:Nat) (μ0:Int) (μ1:Sn) (μ2:GS Sn) (μ3:Nat) (μ4:List Bool):St:=⟨40,[(5,.lsl ν0 0 ((μ0).toNat) 1 none),(7,.lref ν1 0 2 0),(8,I μ1.lo),(13,.sl μ2.nl (μ2.l.map Sn.D) (zsl μ2.nl 2) none),(14,I ((μ2.l.length:Nat):Int)),(15,I ((μ3:Nat):Int))],[(ν0,⟨μ4.map B,1,false⟩),(ν1,⟨[.agg [I μ1.lo,I μ1.hi]],2,false⟩)],ν2,ν0⟩

def sd40094 (ν0 ν1 ν2:Nat) (μ0:Sn) (μ1:Int) (μ2:GS Sn) (μ3:Nat) (μ4:List Bool):St:=⟨40,[(8,I μ0.lo),(20,I μ0.lo),(19,.lref ν0 0 2 0),(7,.lref ν0 0 2 0),(18,.agg [I μ0.lo,I μ0.hi]),(17,.ptr (.agg [I μ0.lo,I μ0.hi])),(16,B true),(5,.lsl ν1 0 ((μ1).toNat) 1 none),(13,.sl μ2.nl (μ2.l.map Sn.D) (zsl μ2.nl 2) none),(14,I ((μ2.l.length:Nat):Int)),(15,I ((μ3:Nat):Int))],[(ν1,⟨μ4.map B,1,false⟩),(ν0,⟨[.agg [I μ0.lo,I μ0.hi]],2,false⟩)],ν2,ν1⟩

inductive LR_ranges_full_3 where
 | x0 (xm:List Bool)
instance:Inhabited LR_ranges_full_3:=⟨.x0 default⟩
def ranges_full_3:List Sn→(List Bool)→LR_ranges_full_3
 | [],xm=>.x0 xm
 | x3::xk,xm =>
  match ranges_full_6 x3 ((x3.hi - x3.lo).toNat+2) x3.lo xm with
  | .x0 xP v6_1 =>
   ranges_full_3 xk v6_1
  | .out =>
   default
def lr_ranges_full_3 (l:GS Sn) (n:Int):LR_ranges_full_3→Exit × St
 | .x0 xm=>((.exit 0),(sd40096 0 1 n l xm))
def iv_ranges_full_3 (l:GS Sn) (n:Int):LR_ranges_full_3→Prop
 | .x0 xm=>(xm.length=((n).toNat))
theorem lp_ranges_full_3 (l:GS Sn) (n:Int):∀ (xk:List Sn) (i3:Nat) (xm:List Bool) (hd3:l.l.drop i3=xk) (hi3:i3≤l.l.length) (hB:∀ s∈l.l,0≤s.lo∧s.lo≤s.hi∧s.hi < n) (hn:1≤n∧n≤10000) (hl3_v3_0:xm.length=((n).toNat)) (hL3:l.l.length≤9223372036854775807),(lim cfg).loop 83 lp83_3 ⟨40,[(5,.lsl 0 0 ((n).toNat) 1 none),(13,.sl l.nl (l.l.map Sn.D) (zsl l.nl 2) none),(14,I ((l.l.length:Nat):Int)),(15,I ((i3:Nat):Int))],[(0,⟨xm.map B,1,false⟩)],1,0⟩=some (lr_ranges_full_3 l n (ranges_full_3 xk xm)):=by
 intro xk
 induction xk with
 | nil =>
  intro i3 xm hd3 hi3 hB hn hl3_v3_0 hL3
  unfold ranges_full_3
  obtain rfl:i3=l.l.length:=nil_eq hd3 hi3
  exact zF [.dec false] (Ai (lt_no hd3) trivial) (by kernel_rfl)
 | cons x3 xk ih =>
  intro i3 xm hd3 hi3 hB hn hl3_v3_0 hL3
  have hlt3:=zc hd3
  have hbx:=hB x3 (mem_drop hd3)
  unfold ranges_full_3
  cases h6:ranges_full_6 x3 ((x3.hi - x3.lo).toNat+2) x3.lo xm with
  | x0 xP v6_1 =>
   try dsimp only
   have hv_h6:=ivt_ranges_full_6 l n i3 x3 ((x3.hi - x3.lo).toNat+2) x3.lo xm (full_ne x3 _ (by omega)) (by omega) (by omega) (by omega) (by omega)
   rw [h6] at hv_h6
   obtain ⟨hv_h6_0,hv_h6_1⟩:=hv_h6
   try dsimp only [iv_ranges_full_6] at hv_h6_0
   try dsimp only [iv_ranges_full_6] at hv_h6_1
   exact zv (ks:=[5,13,14,15]) (st':=(sd40097 1 0 2 i3 x3 xP n l v6_1)) [.dec true,.el (.agg [I x3.lo,I x3.hi]),.gloop (sd40095 0 1 2 n x3 l i3 xm) (.exit 2) (sd40092 1 0 2 x3 xP n l i3 v6_1),.rw 30 (I ((i3+1:Nat):Int))] (Ai (zX (i:=i3) (by have:=zc hd3; omega)) (Ai (zZ (q:=lr_ranges_full_6 l n i3 x3) (lp_ranges_full_6 l n i3 x3 ((x3.hi - x3.lo).toNat+2) x3.lo xm (full_ne x3 _ (by omega)) (by omega) (by omega) (by omega) (by omega)) h6) (Ai (gc_of (C:=cfg) (f:=83) (a:=lp83_6) (ks:=[5,7,8,13,14,15]) (st:=(sd40094 1 0 2 x3 n l i3 xm)) (st1:=(sd40095 0 1 2 n x3 l i3 xm)) (by kernel_rfl) (by (simp only [sd40094,sd40095,go_sem,List.length_set,Nat.reduceAdd,Nat.reduceEqDiff,Nat.reduceLT,Nat.reduceLeDiff,bI2,eok_B.idsL,eok_B.renL,eok_B.snapAll,z8.idsL,z8.renL,z8.snapAll,z6.idsL,z6.renL,z6.snapAll]) <;> rfl)) (Ai (el_at (s:=l) (f:=Sn.D) (k:=2) hd3) (Ai (yk hd3) trivial))))) (by kernel_rfl) (by (simp only [sd40097,go_sem,List.length_set,Nat.reduceAdd,Nat.reduceEqDiff,Nat.reduceLT,Nat.reduceLeDiff,bI2,eok_B.idsL,eok_B.renL,eok_B.snapAll,z8.idsL,z8.renL,z8.snapAll,z6.idsL,z6.renL,z6.snapAll]) <;> rfl) (ih (i3+1) v6_1 (ze hd3) (zc hd3) (by omega) (by omega) (by omega) (by omega)) (by kernel_rfl)
  | out =>
   exact absurd h6 ((full_ne x3 _ (by omega)))
theorem ivt_ranges_full_3 (l:GS Sn) (n:Int):∀ (xk:List Sn) (i3:Nat) (xm:List Bool) (hd3:l.l.drop i3=xk) (hi3:i3≤l.l.length) (hB:∀ s∈l.l,0≤s.lo∧s.lo≤s.hi∧s.hi < n) (hn:1≤n∧n≤10000) (hl3_v3_0:xm.length=((n).toNat)) (hL3:l.l.length≤9223372036854775807),iv_ranges_full_3 l n (ranges_full_3 xk xm):=by
 intro xk
 induction xk with
 | nil =>
  intro i3 xm hd3 hi3 hB hn hl3_v3_0 hL3
  unfold ranges_full_3
  obtain rfl:i3=l.l.length:=nil_eq hd3 hi3
  exact hl3_v3_0
 | cons x3 xk ih =>
  intro i3 xm hd3 hi3 hB hn hl3_v3_0 hL3
  have hlt3:=zc hd3
  have hbx:=hB x3 (mem_drop hd3)
  unfold ranges_full_3
  cases h6:ranges_full_6 x3 ((x3.hi - x3.lo).toNat+2) x3.lo xm with
  | x0 xP v6_1 =>
   try dsimp only
   have hv_h6:=ivt_ranges_full_6 l n i3 x3 ((x3.hi - x3.lo).toNat+2) x3.lo xm (full_ne x3 _ (by omega)) (by omega) (by omega) (by omega) (by omega)
   rw [h6] at hv_h6
   obtain ⟨hv_h6_0,hv_h6_1⟩:=hv_h6
   try dsimp only [iv_ranges_full_6] at hv_h6_0
   try dsimp only [iv_ranges_full_6] at hv_h6_1
   exact ih (i3+1) v6_1 (ze hd3) (zc hd3) (by omega) (by omega) (by omega) (by omega)
  | out =>
   exact absurd h6 ((full_ne x3 _ (by omega)))

def sd40100 (ν0 ν1:Nat) (μ0:List Bool) (μ1:Nat) (μ2:Int) (μ3:Int):St:=⟨40,[(4,B false),(38,B true),(37,B (μ0.getD μ1 default)),(10,B (μ0.getD μ1 default)),(36,B (μ0.getD μ1 default)),(35,.lref ν0 μ1 1 0),(34,B true),(31,.lsl ν0 0 ((μ2).toNat) 1 none),(32,I μ3),(33,I ((μ1:Nat):Int))],[(ν0,⟨μ0.map B,1,false⟩)],ν1,ν0⟩

noncomputable def lp83_11:Code:=subC [1,1,1,0,1,0,0] (bodyC Tryz.f83)

def sd40101 (ν0 ν1:Nat) (μ0:Nat) (μ1:List Bool) (μ2:Int) (μ3:Int):St:=⟨40,[(33,I ((μ0+1:Nat):Int)),(39,I ((μ0+1:Nat):Int)),(38,B false),(37,B (μ1.getD μ0 default)),(10,B (μ1.getD μ0 default)),(36,B (μ1.getD μ0 default)),(35,.lref ν0 μ0 1 0),(34,B true),(31,.lsl ν0 0 ((μ2).toNat) 1 none),(32,I μ3),(33,I ((μ0:Nat):Int))],[(ν0,⟨μ1.map B,1,false⟩)],ν1,ν0⟩

inductive LR_ranges_full_11 where
 | x0 (i11:Nat)
 | x1 (i11:Nat)
instance:Inhabited LR_ranges_full_11:=⟨.x0 default⟩
def ranges_full_11 (xm:List Bool):Nat→Nat→LR_ranges_full_11
 | 0,i11=>.x0 i11
 | rest11+1,i11 =>
  bif (xm.getD i11 default) then
   ranges_full_11 xm rest11 (i11+1)
  else
   .x1 i11
def lr_ranges_full_11 (n:Int) (xm:List Bool) (q11_0:Int):LR_ranges_full_11→Exit × St
 | .x0 i11=>((.exit 4),⟨40,[(34,B false),(31,.lsl 0 0 ((n).toNat) 1 none),(32,I q11_0),(33,I ((i11:Nat):Int))],[(0,⟨xm.map B,1,false⟩)],1,0⟩)
 | .x1 i11=>(.ret,(sd40100 0 1 xm i11 n q11_0))
theorem lp_ranges_full_11 (n:Int) (xm:List Bool) (q11_0:Int):∀ (rest11:Nat) (i11:Nat) (hk11:(q11_0 - ((i11:Nat):Int)).toNat=rest11) (hN11:q11_0≤9223372036854775807) (hr11:xm.length=(n).toNat∧q11_0=(((n).toNat:Nat):Int)),(lim cfg).loop 83 lp83_11 ⟨40,[(31,.lsl 0 0 ((n).toNat) 1 none),(32,I q11_0),(33,I ((i11:Nat):Int))],[(0,⟨xm.map B,1,false⟩)],1,0⟩=some (lr_ranges_full_11 n xm q11_0 (ranges_full_11 xm rest11 i11)):=by
 intro rest11
 induction rest11 with
 | zero =>
  intro i11 hk11 hN11 hr11
  unfold ranges_full_11
  exact zF [.dec false] (Ai (ct_no hk11) trivial) (by kernel_rfl)
 | succ rest11 ih =>
  intro i11 hk11 hN11 hr11
  have hlt11:=of_decide_eq_true (ct_at hk11)
  unfold ranges_full_11
  cases h9:(xm.getD i11 default) with
  | true =>
   exact zv (ks:=[31,32,33]) (st':=(sd40101 0 1 i11 xm n q11_0)) [.dec true,.op (some 35) ⟨.lref 0 i11 1 0,[],[],1⟩,.op (some 36) ⟨B (xm.getD i11 default),[],[0],1⟩,.op (some 38) ⟨B false,[],[],1⟩,.rw 39 (I ((i11+1:Nat):Int))] (Ai (zX (i:=i11) (by omega)) (Ai (not_op (nxt:=1) h9) (Ai (load_row (C:=cfg) (objs:=[(0,⟨xm.map B,1,false⟩)]) (nxt:=1) (t:=4) (ty:=ty4) (o:=0) (n:=i11) (sz:=1) (sub:=0) (ob:=⟨xm.map B,1,false⟩) (e:=B (xm.getD i11 default)) (d:=B (xm.getD i11 default)) (by kernel_rfl) (by kernel_rfl) rfl (row_get (f:=B) (by omega)) (by kernel_rfl)) (Ai (idx_row (C:=cfg) (nxt:=1) (t:=103) (ty:=ty103) (te:=ty4) (e:=4) (o:=0) (len:=((n).toNat)) (sz:=1) (cap:=none) (i:=((i11:Nat):Int)) (by kernel_rfl) rfl (by kernel_rfl) rfl (by omega) (by omega)) (Ai (ct_at hk11) trivial))))) (by kernel_rfl) (by (simp only [sd40101,go_sem,List.length_set,Nat.reduceAdd,Nat.reduceEqDiff,Nat.reduceLT,Nat.reduceLeDiff,bI2,eok_B.idsL,eok_B.renL,eok_B.snapAll,z8.idsL,z8.renL,z8.snapAll,z6.idsL,z6.renL,z6.snapAll]) <;> rfl) (ih (i11+1) (by omega) hN11 (by omega)) (by kernel_rfl)
  | false =>
   exact zF [.dec true,.op (some 35) ⟨.lref 0 i11 1 0,[],[],1⟩,.op (some 36) ⟨B (xm.getD i11 default),[],[0],1⟩,.op (some 38) ⟨B true,[],[],1⟩] (Ai (not_op (nxt:=1) h9) (Ai (load_row (C:=cfg) (objs:=[(0,⟨xm.map B,1,false⟩)]) (nxt:=1) (t:=4) (ty:=ty4) (o:=0) (n:=i11) (sz:=1) (sub:=0) (ob:=⟨xm.map B,1,false⟩) (e:=B (xm.getD i11 default)) (d:=B (xm.getD i11 default)) (by kernel_rfl) (by kernel_rfl) rfl (row_get (f:=B) (by omega)) (by kernel_rfl)) (Ai (idx_row (C:=cfg) (nxt:=1) (t:=103) (ty:=ty103) (te:=ty4) (e:=4) (o:=0) (len:=((n).toNat)) (sz:=1) (cap:=none) (i:=((i11:Nat):Int)) (by kernel_rfl) rfl (by kernel_rfl) rfl (by omega) (by omega)) (Ai (ct_at hk11) trivial)))) (by kernel_rfl)

def ranges_full (l:GS Sn) (n:Int):Bool :=
 match ranges_full_3 l.l (List.replicate ((n).toNat) false) with
 | .x0 xm =>
  match ranges_full_11 xm (((((n).toNat):Nat):Int) - 0).toNat 0 with
  | .x0 i11 =>
   true
  | .x1 i11 =>
   false

def sd40099 (ν0 ν1:Nat) (μ0:Int) (μ1:GS Sn):St:=⟨40,[(5,.lsl ν0 0 ((μ0).toNat) 1 none),(13,.sl μ1.nl (μ1.l.map Sn.D) (zsl μ1.nl 2) none),(14,I ((μ1.l.length:Nat):Int)),(15,I 0)],[(ν0,⟨(List.replicate ((μ0).toNat) false).map B,1,false⟩)],ν1,ν0⟩

def sd40102 (ν0 ν1:Nat) (μ0:Int) (μ1:GS Sn) (μ2:List Bool):St:=⟨40,[(33,I 0),(32,I ((((μ0).toNat):Nat):Int)),(31,.lsl ν0 0 ((μ0).toNat) 1 none),(16,B false),(5,.lsl ν0 0 ((μ0).toNat) 1 none),(13,.sl μ1.nl (μ1.l.map Sn.D) (zsl μ1.nl 2) none),(14,I ((μ1.l.length:Nat):Int)),(15,I ((μ1.l.length:Nat):Int))],[(ν0,⟨μ2.map B,1,false⟩)],ν1,ν0⟩

def sd40098 (ν0 ν1:Nat) (μ0:GS Sn) (μ1:Int):St:=⟨40,[(15,I 0),(14,I ((μ0.l.length:Nat):Int)),(13,.sl μ0.nl (μ0.l.map Sn.D) (zsl μ0.nl 2) none),(5,.lsl ν0 0 ((μ1).toNat) 1 none),(12,.lsl ν0 0 ((μ1).toNat) 1 none),(11,I μ1),(4,B false),(0,.sl μ0.nl (μ0.l.map Sn.D) (zsl μ0.nl 2) none),(1,I μ1)],[(ν0,⟨(List.replicate ((μ1).toNat) false).map B,1,false⟩)],ν1,ν0⟩

def sd40103 (ν0 ν1:Nat) (μ0:List Bool) (μ1:Nat) (μ2:Int):St:=⟨40,[(4,B false),(38,B true),(37,B (μ0.getD μ1 default)),(10,B (μ0.getD μ1 default)),(36,B (μ0.getD μ1 default)),(35,.lref ν0 μ1 1 0),(34,B true),(31,.lsl ν0 0 ((μ2).toNat) 1 none),(32,I ((((μ2).toNat):Nat):Int)),(33,I ((μ1:Nat):Int))],[(ν0,⟨μ0.map B,1,false⟩)],ν1,ν0⟩

theorem T_ranges_full (l:GS Sn) (n:Int) (hL:l.l.length≤9223372036854775807) (hn:1≤n∧n≤10000) (hB:∀ s∈l.l,0≤s.lo∧s.lo≤s.hi∧s.hi < n):(lim cfg).pure 83 [GS.D Sn.D 2 l,I n]=some (B (ranges_full l n)):=by
 unfold ranges_full
 cases h7:ranges_full_3 l.l (List.replicate ((n).toNat) false) with
 | x0 xm =>
  try dsimp only
  have hv_h7:=ivt_ranges_full_3 l n l.l 0 (List.replicate ((n).toNat) false) (List.drop_zero) (Nat.zero_le _) (by omega) (by omega) (by simp <;> omega) (by omega)
  rw [h7] at hv_h7
  have hv_h7_0:=hv_h7
  try dsimp only [iv_ranges_full_3] at hv_h7_0
  cases h10:ranges_full_11 xm (((((n).toNat):Nat):Int) - 0).toNat 0 with
  | x0 i11 =>
   try dsimp only
   exact zk [.op (some 12) ⟨.lsl 0 0 ((n).toNat) 1 none,[(0,some ⟨(List.replicate ((n).toNat) false).map B,1,false⟩)],[],1⟩,.rw 14 (I ((l.l.length:Nat):Int)),.gloop (sd40099 0 1 n l) (.exit 0) (sd40096 0 1 n l xm),.gloop ⟨40,[(31,.lsl 0 0 ((n).toNat) 1 none),(32,I ((((n).toNat):Nat):Int)),(33,I 0)],[(0,⟨xm.map B,1,false⟩)],1,0⟩ (.exit 4) ⟨40,[(34,B false),(31,.lsl 0 0 ((n).toNat) 1 none),(32,I ((((n).toNat):Nat):Int)),(33,I ((i11:Nat):Int))],[(0,⟨xm.map B,1,false⟩)],1,0⟩] (Ai (zZ (q:=lr_ranges_full_11 n xm ((((n).toNat):Nat):Int)) (lp_ranges_full_11 n xm ((((n).toNat):Nat):Int) (((((n).toNat):Nat):Int) - 0).toNat 0 (by omega) (by omega) (by omega)) h10) (Ai (gc_of (C:=cfg) (f:=83) (a:=lp83_11) (ks:=[31,32,33]) (st:=(sd40102 0 1 n l xm)) (st1:=⟨40,[(31,.lsl 0 0 ((n).toNat) 1 none),(32,I ((((n).toNat):Nat):Int)),(33,I 0)],[(0,⟨xm.map B,1,false⟩)],1,0⟩) (by kernel_rfl) (by (simp only [sd40102,go_sem,List.length_set,Nat.reduceAdd,Nat.reduceEqDiff,Nat.reduceLT,Nat.reduceLeDiff,bI2,eok_B.idsL,eok_B.renL,eok_B.snapAll,z8.idsL,z8.renL,z8.snapAll,z6.idsL,z6.renL,z6.snapAll]) <;> rfl)) (Ai (zZ (q:=lr_ranges_full_3 l n) (lp_ranges_full_3 l n l.l 0 (List.replicate ((n).toNat) false) (List.drop_zero) (Nat.zero_le _) (by omega) (by omega) (by simp <;> omega) (by omega)) h7) (Ai (gc_of (C:=cfg) (f:=83) (a:=lp83_3) (ks:=[5,13,14,15]) (st:=(sd40098 0 1 l n)) (st1:=(sd40099 0 1 n l)) (by kernel_rfl) (by (simp only [sd40098,sd40099,go_sem,List.length_set,Nat.reduceAdd,Nat.reduceEqDiff,Nat.reduceLT,Nat.reduceLeDiff,bI2,eok_B.idsL,eok_B.renL,eok_B.snapAll,z8.idsL,z8.renL,z8.snapAll,z6.idsL,z6.renL,z6.snapAll]) <;> rfl)) (Ai (zj Sn.D l) (Ai (make_op (C:=cfg) (nxt:=0) (t:=103) (te:=ty4) (f:=B) (sz:=1) (n:=n) false rfl (by kernel_rfl) rfl rfl (by omega) ⟨by simp only [ty4,big] <;> (omega),by simp only [big] <;> (omega)⟩) trivial)))))) (by kernel_rfl)
  | x1 i11 =>
   try dsimp only
   exact zk [.op (some 12) ⟨.lsl 0 0 ((n).toNat) 1 none,[(0,some ⟨(List.replicate ((n).toNat) false).map B,1,false⟩)],[],1⟩,.rw 14 (I ((l.l.length:Nat):Int)),.gloop (sd40099 0 1 n l) (.exit 0) (sd40096 0 1 n l xm),.gloop ⟨40,[(31,.lsl 0 0 ((n).toNat) 1 none),(32,I ((((n).toNat):Nat):Int)),(33,I 0)],[(0,⟨xm.map B,1,false⟩)],1,0⟩ .ret (sd40103 0 1 xm i11 n)] (Ai (zZ (q:=lr_ranges_full_11 n xm ((((n).toNat):Nat):Int)) (lp_ranges_full_11 n xm ((((n).toNat):Nat):Int) (((((n).toNat):Nat):Int) - 0).toNat 0 (by omega) (by omega) (by omega)) h10) (Ai (gc_of (C:=cfg) (f:=83) (a:=lp83_11) (ks:=[31,32,33]) (st:=(sd40102 0 1 n l xm)) (st1:=⟨40,[(31,.lsl 0 0 ((n).toNat) 1 none),(32,I ((((n).toNat):Nat):Int)),(33,I 0)],[(0,⟨xm.map B,1,false⟩)],1,0⟩) (by kernel_rfl) (by (simp only [sd40102,go_sem,List.length_set,Nat.reduceAdd,Nat.reduceEqDiff,Nat.reduceLT,Nat.reduceLeDiff,bI2,eok_B.idsL,eok_B.renL,eok_B.snapAll,z8.idsL,z8.renL,z8.snapAll,z6.idsL,z6.renL,z6.snapAll]) <;> rfl)) (Ai (zZ (q:=lr_ranges_full_3 l n) (lp_ranges_full_3 l n l.l 0 (List.replicate ((n).toNat) false) (List.drop_zero) (Nat.zero_le _) (by omega) (by omega) (by simp <;> omega) (by omega)) h7) (Ai (gc_of (C:=cfg) (f:=83) (a:=lp83_3) (ks:=[5,13,14,15]) (st:=(sd40098 0 1 l n)) (st1:=(sd40099 0 1 n l)) (by kernel_rfl) (by (simp only [sd40098,sd40099,go_sem,List.length_set,Nat.reduceAdd,Nat.reduceEqDiff,Nat.reduceLT,Nat.reduceLeDiff,bI2,eok_B.idsL,eok_B.renL,eok_B.snapAll,z8.idsL,z8.renL,z8.snapAll,z6.idsL,z6.renL,z6.snapAll]) <;> rfl)) (Ai (zj Sn.D l) (Ai (make_op (C:=cfg) (nxt:=0) (t:=103) (te:=ty4) (f:=B) (sz:=1) (n:=n) false rfl (by kernel_rfl) rfl rfl (by omega) ⟨by simp only [ty4,big] <;> (omega),by simp only [big] <;> (omega)⟩) trivial)))))) (by kernel_rfl)
end Go.VS

namespace Go.VS
open Go
set_option maxHeartbeats 0
theorem area_b {n:Int} (h:zh n=true):-1099511627776≤n∧n≤1099511627776:=area_iff.1 h
theorem turns_k {n:Int} {w:Sn} (hn:1≤n∧n≤10000) (h0:¬ (w.lo > w.hi)) (ha:-1099511627776≤w.lo∧w.lo≤1099511627776) (hb:-1099511627776≤w.hi∧w.hi≤1099511627776) (h:decide ((w64 ((za w.hi n) - (za w.lo n))) > 66)=false):za w.hi n - 66≤za w.lo n∧za w.lo n≤za w.hi n+1∧-1099511627777≤za w.lo n∧za w.hi n≤1099511627777:=by
 have h:=of_decide_eq_false h
 rw [down_eq hn.1 (by omega),down_eq hn.1 (by omega)] at h ⊢
 have h1:=ediv_bd (a:=w.lo) hn.1 (by omega)
 have h2:=ediv_bd (a:=w.hi) hn.1 (by omega)
 have h3:w.lo / n≤w.hi / n:=Int.ediv_le_ediv (by omega) (by omega)
 rw [y7 (by omega) (by omega)] at h
 omega
end Go.VS

