/- Nothing of a statement is proved in this text alone: it is part 4 of the proof's own tools, an evaluator of the code over deep values, its soundness, and what it makes of this seat's functions. Conditions: none beyond the statement's own. -/
import Derived.Test.YtmdmclbpnkdimaaGreatDoorVsRCProd3
set_option linter.unusedSimpArgs false
set_option linter.unusedVariables false
set_option maxHeartbeats 0
namespace Go.VS
open List (length_append length_cons length_nil length_drop)
open Go
def mrg:List Sn→List Sn→List Sn
 |[],q=>q
 |p,[]=>p
 |a::p,b::q=>if a.lo≤b.lo then a::mrg p (b::q) else b::mrg (a::p) q
termination_by p q=>p.length+q.length
theorem mrg_nil (p:List Sn):mrg p []=p:=by cases p<;>simp [mrg]
theorem nil_mrg (q:List Sn):mrg [] q=q:=by simp [mrg]
theorem mrg_cons (a b:Sn) (p q:List Sn):mrg (a::p) (b::q)=if a.lo≤b.lo then a::mrg p (b::q) else b::mrg (a::p) q:=by rw [mrg]
theorem mrg_perm:∀(p q:List Sn),List.Perm (mrg p q) (p++q)
 |[],q=>by rw [nil_mrg];exact List.Perm.refl _
 |a::p,[]=>by rw [mrg_nil,List.append_nil]
 |a::p,b::q=>by
  rw [mrg_cons]
  split
  ·exact (mrg_perm p (b::q)).cons a
  ·exact ((mrg_perm (a::p) q).cons b).trans (List.perm_middle.symm)
termination_by p q=>p.length+q.length
theorem mrg_srt:∀(p q:List Sn),srtS p→srtS q→srtS (mrg p q)
 |[],q,_,hq=>by rw [nil_mrg];exact hq
 |a::p,[],hp,_=>by rw [mrg_nil];exact hp
 |a::p,b::q,hp,hq=>by
  rw [mrg_cons]
  have ha:=List.pairwise_cons.1 hp
  have hb:=List.pairwise_cons.1 hq
  split
  ·rename_i h
   refine List.pairwise_cons.2 ⟨fun s hs=>?_,mrg_srt p (b::q) ha.2 hq⟩
   rcases List.mem_append.1 ((mrg_perm p (b::q)).mem_iff.1 hs) with k|k
   ·exact ha.1 s k
   ·rcases List.mem_cons.1 k with rfl|k
    ·exact h
    ·have:=hb.1 s k;omega
  ·rename_i h
   refine List.pairwise_cons.2 ⟨fun s hs=>?_,mrg_srt (a::p) q hp hb.2⟩
   rcases List.mem_append.1 ((mrg_perm (a::p) q).mem_iff.1 hs) with k|k
   ·rcases List.mem_cons.1 k with rfl|k
    ·omega
    ·have:=ha.1 s k;omega
   ·exact hb.1 s k
termination_by p q=>p.length+q.length
theorem cn_srt:∀{l:List Sn},cn l→srtS l
 |[],_=>List.Pairwise.nil
 |s::l,h=>List.pairwise_cons.2 ⟨fun t ht=>by
   have:=h.2.1 t ht
   have:=h.1
   omega,cn_srt h.2.2⟩
def Bd (l:List Sn):Prop:=∀s∈l,-2305843009213693952≤s.lo∧s.lo≤s.hi∧s.hi≤2305843009213693952
section
variable {β:Type} (F:List Sn→β) {v:List Sn} {c x:Sn}
theorem stp (hc:-2305843009213693952≤c.hi∧c.hi≤2305843009213693952) (hv:v.length≤4611686018427387904) :
  (bif decide ((((v++[c]).length:Nat):Int)>0) then
   bif decide (x.lo≤(w64 ((((v++[c]).getD ((w64 ((((v++[c]).length:Nat):Int) - 1)).toNat) default).hi)+1))) then
    F ((v++[c]).set ((w64 ((((v++[c]).length:Nat):Int) - 1)).toNat) (⟨((v++[c]).getD ((w64 ((((v++[c]).length:Nat):Int) - 1)).toNat) default).lo,zb (((v++[c]).getD ((w64 ((((v++[c]).length:Nat):Int) - 1)).toNat) default).hi) (x.hi)⟩:Sn))
   else F (v++[c]++[x])
  else F (v++[c]++[x]))=if x.lo≤c.hi+1 then F (v++[⟨c.lo,max c.hi x.hi⟩]) else F (v++[c]++[x]):=by
 have hl:w64 ((((v++[c]).length:Nat):Int) - 1)=(v.length:Int):=by
  rcases len_last (v:=v) (c:=c) with e|e
  ·exact e
  ·omega
 have hp:decide ((((v++[c]).length:Nat):Int)>0)=true:=decide_eq_true (by simp only [length_append,length_cons,length_nil];omega)
 rw [hl,hp,Int.toNat_natCast,getD_last,set_last,zI (by omega) (by omega),imax_eq]
 by_cases h:x.lo≤c.hi+1
 ·rw [decide_eq_true h,if_pos h];rfl
 ·rw [decide_eq_false h,if_neg h];rfl
end
theorem at_drop {p:GS Sn} {i:Nat} {a:Sn} {l:List Sn} (h:p.l.drop i=a::l):GS.at p (i:Int)=a:=by
 unfold GS.at
 rw [Int.toNat_natCast,List.getD_eq_getElem?_getD]
 have:p.l[i]?=some a:=by rw [← List.head?_drop,h];rfl
 rw [this];rfl
theorem drop_lt {p:List Sn} {i:Nat} {a:Sn} {l:List Sn} (h:p.drop i=a::l):i < p.length∧p.drop (i+1)=l:=by
 constructor
 ·rcases Nat.lt_or_ge i p.length with k|k
  ·exact k
  ·rw [List.drop_of_length_le k] at h;cases h
 ·rw [← List.drop_drop,h];rfl
theorem bd_drop {l:List Sn} (h:Bd l) {i:Nat} {a:Sn} {r:List Sn} (e:l.drop i=a::r):-2305843009213693952≤a.lo∧a.lo≤a.hi∧a.hi≤2305843009213693952 :=
 h a (List.mem_of_mem_drop (by rw [e];exact List.mem_cons_self))
section
variable {p q:GS Sn} (hp:p.l.length≤1073741824) (hq:q.l.length≤1073741824) (bp:Bd p.l) (bq:Bd q.l)
include hp hq bp bq
theorem join8a:∀(n i k:Nat) (v:List Sn) (c:Sn),(p.l.drop i).length+(q.l.drop k).length < n→i≤p.l.length→k≤q.l.length→v.length≤4294967296+i+k→(-2305843009213693952≤c.hi∧c.hi≤2305843009213693952) →
  ∃i' k',zR p q n (v++[c]) (i:Int) (k:Int)=.x0 (v++jn c (mrg (p.l.drop i) (q.l.drop k))) i' k'
 |0,i,k,v,c,h,_,_,_,_=>by omega
 |n+1,i,k,v,c,h,hi,hk,hv,hc=>by
  have stepP:∀a l,p.l.drop i=a::l→∀r,jn c (a::r)=(if a.lo≤c.hi+1 then jn ⟨c.lo,max c.hi a.hi⟩ r else c::jn a r):=fun a l _ r=>rfl
  have wi:i < p.l.length→w64 ((i:Int)+1)=((i+1:Nat):Int):=fun h=>by rw [zI (by omega) (by omega)];omega
  have wk:k < q.l.length→w64 ((k:Int)+1)=((k+1:Nat):Int):=fun h=>by rw [zI (by omega) (by omega)];omega
  have takeP:∀a l,p.l.drop i=a::l→∃i' k',(if a.lo≤c.hi+1 then zR p q n (v++[⟨c.lo,max c.hi a.hi⟩]) ((i+1:Nat):Int) (k:Int) else zR p q n (v++[c]++[a]) ((i+1:Nat):Int) (k:Int))=.x0 (v++jn c (a::mrg l (q.l.drop k))) i' k':=fun a l e=>by
   obtain ⟨h1,h2⟩:=drop_lt e
   have hb:=bd_drop bp e
   have hlen:(p.l.drop (i+1)).length+(q.l.drop k).length < n:=by rw [e] at h;rw [h2];simp only [length_cons] at h;omega
   unfold jn
   split
   ·obtain ⟨i',k',e1⟩:=join8a n (i+1) k v ⟨c.lo,max c.hi a.hi⟩ hlen (by omega) hk (by omega) (by simp only;omega)
    rw [h2] at e1
    exact ⟨i',k',e1⟩
   ·obtain ⟨i',k',e1⟩:=join8a n (i+1) k (v++[c]) a hlen (by omega) hk (by simp only [length_append,length_cons,length_nil];omega) (by omega)
    rw [h2,List.append_assoc] at e1
    exact ⟨i',k',by rw [List.append_assoc] at e1 ⊢;exact e1⟩
  have takeQ:∀b l,q.l.drop k=b::l→∃i' k',(if b.lo≤c.hi+1 then zR p q n (v++[⟨c.lo,max c.hi b.hi⟩]) (i:Int) ((k+1:Nat):Int) else zR p q n (v++[c]++[b]) (i:Int) ((k+1:Nat):Int))=.x0 (v++jn c (b::mrg (p.l.drop i) l)) i' k':=fun b l e=>by
   obtain ⟨h1,h2⟩:=drop_lt e
   have hb:=bd_drop bq e
   have hlen:(p.l.drop i).length+(q.l.drop (k+1)).length < n:=by rw [e] at h;rw [h2];simp only [length_cons] at h;omega
   unfold jn
   split
   ·obtain ⟨i',k',e1⟩:=join8a n i (k+1) v ⟨c.lo,max c.hi b.hi⟩ hlen hi (by omega) (by omega) (by simp only;omega)
    rw [h2] at e1
    exact ⟨i',k',e1⟩
   ·obtain ⟨i',k',e1⟩:=join8a n i (k+1) (v++[c]) b hlen hi (by omega) (by simp only [length_append,length_cons,length_nil];omega) (by omega)
    rw [h2,List.append_assoc] at e1
    exact ⟨i',k',by rw [List.append_assoc] at e1 ⊢;exact e1⟩
  unfold zR
  have fP:=fun (x:Sn)=>stp (F:=fun z=>zR p q n z (w64 ((i:Int)+1)) (k:Int)) (v:=v) (c:=c) (x:=x) hc (by omega)
  have fQ:=fun (x:Sn)=>stp (F:=fun z=>zR p q n z (i:Int) (w64 ((k:Int)+1))) (v:=v) (c:=c) (x:=x) hc (by omega)
  cases eP:p.l.drop i with
  |nil =>
   have hip:¬i < p.l.length:=fun h=>by have:=congrArg List.length eP;simp at this;omega
   rw [decide_eq_false (show ¬(i:Int) < (p.l.length:Int) by omega),cond_false]
   cases eQ:q.l.drop k with
   |nil =>
    have hkq:¬k < q.l.length:=fun h=>by have:=congrArg List.length eQ;simp at this;omega
    rw [decide_eq_false (show ¬(k:Int) < (q.l.length:Int) by omega),cond_false,mrg_nil]
    exact ⟨_,_,rfl⟩
   |cons b l =>
    obtain ⟨h1,h2⟩:=drop_lt eQ
    have hne:((k:Int) == (q.l.length:Int))=false:=beq_eq_false_iff_ne.2 (by omega)
    rw [decide_eq_true (show (k:Int) < (q.l.length:Int) by omega),cond_true,hne,cond_false,at_drop eQ]
    have:=fQ b
    try dsimp only at this
    rw [this,wk h1,nil_mrg]
    have t:=takeQ b l eQ
    rw [eP,nil_mrg] at t
    exact t
  |cons a l =>
   obtain ⟨h1,h2⟩:=drop_lt eP
   rw [decide_eq_true (show (i:Int) < (p.l.length:Int) by omega),cond_true]
   cases eQ:q.l.drop k with
   |nil =>
    have hkq:¬k < q.l.length:=fun h=>by have:=congrArg List.length eQ;simp at this;omega
    have he:((k:Int) == (q.l.length:Int))=true:=by rw [beq_iff_eq];omega
    rw [he,cond_true,at_drop eP]
    have:=fP a
    try dsimp only at this
    rw [this,wi h1,mrg_nil]
    have t:=takeP a l eP
    rw [eQ,mrg_nil] at t
    exact t
   |cons b l' =>
    obtain ⟨k1,k2⟩:=drop_lt eQ
    have hne:((k:Int) == (q.l.length:Int))=false:=beq_eq_false_iff_ne.2 (by omega)
    rw [hne,cond_false,at_drop eP,at_drop eQ,mrg_cons]
    by_cases hab:a.lo≤b.lo
    ·rw [decide_eq_true hab,cond_true,if_pos hab]
     have:=fP a
     try dsimp only at this
     rw [this,wi h1]
     have t:=takeP a l eP
     rw [eQ] at t
     exact t
    ·rw [decide_eq_false hab,cond_false,if_neg hab]
     have:=fQ b
     try dsimp only at this
     rw [this,wk k1]
     have t:=takeQ b l' eQ
     rw [eP] at t
     exact t
theorem join8:(mrg p.l q.l=[]∧r_Join_8 p q (p.l.length+q.l.length+1)=.x1)∨∃i' k',r_Join_8 p q (p.l.length+q.l.length+1)=.x0 (jnL (mrg p.l q.l)) i' k':=by
 unfold r_Join_8
 dsimp only
 have one:∀(i k:Nat) (c:Sn) (r:List Sn),i+k=1→i≤p.l.length→k≤q.l.length→(-2305843009213693952≤c.lo∧c.lo≤c.hi∧c.hi≤2305843009213693952)→mrg p.l q.l=c::mrg (p.l.drop i) (q.l.drop k)→∃i' k',zR p q (p.l.length+q.l.length) [c] (i:Int) (k:Int)=.x0 (jnL (mrg p.l q.l)) i' k':=fun i k c r hs hi hk hc e=>by
  obtain ⟨i',k',e1⟩:=join8a hp hq bp bq (p.l.length+q.l.length) i k [] c (by simp only [length_drop];omega) hi hk (by simp) (by omega)
  exact ⟨i',k',by rw [e];exact e1⟩
 cases eP:p.l with
 |nil =>
  simp only [length_nil,Int.natCast_zero,Int.lt_irrefl,decide_false,cond_false,Nat.zero_add]
  cases eQ:q.l with
  |nil=>exact .inl ⟨by rw [nil_mrg],rfl⟩
  |cons b l =>
   right
   have hb:=bq b (by rw [eQ];exact List.mem_cons_self)
   have t:=one 0 1 b l rfl (by omega) (by rw [eQ];simp) hb (by rw [eP,eQ];simp [nil_mrg])
   rw [eP,eQ] at t
   have e0:GS.at q 0=b:=at_drop (i:=0) (l:=l) (by rw [List.drop_zero,eQ])
   have h1:decide ((0:Int) < (((b::l).length:Nat):Int))=true:=decide_eq_true (by simp only [length_cons];omega)
   have h2:((0:Int) == (((b::l).length:Nat):Int))=false:=beq_eq_false_iff_ne.2 (by simp only [length_cons];omega)
   rw [h1,h2,e0]
   simp only [length_nil,Nat.zero_add] at t
   exact t
 |cons a l =>
  right
  have ha:=bp a (by rw [eP];exact List.mem_cons_self)
  have e0:GS.at p 0=a:=at_drop (i:=0) (l:=l) (by rw [List.drop_zero,eP])
  have h1:decide ((0:Int) < (((a::l).length:Nat):Int))=true:=decide_eq_true (by simp only [length_cons];omega)
  rw [h1,e0,cond_true]
  cases eQ:q.l with
  |nil =>
   have t:=one 1 0 a l rfl (by rw [eP];simp) (by omega) ha (by rw [eP,eQ];simp [mrg_nil])
   rw [eP,eQ] at t
   exact t
  |cons b l' =>
   have hb:=bq b (by rw [eQ];exact List.mem_cons_self)
   have f0:GS.at q 0=b:=at_drop (i:=0) (l:=l') (by rw [List.drop_zero,eQ])
   have h2:((0:Int) == (((b::l').length:Nat):Int))=false:=beq_eq_false_iff_ne.2 (by simp only [length_cons];omega)
   rw [h2,f0,cond_false]
   by_cases hab:a.lo≤b.lo
   ·rw [decide_eq_true hab,cond_true]
    have t:=one 1 0 a l rfl (by rw [eP];simp) (by omega) ha (by rw [eP,eQ,mrg_cons,if_pos hab];rfl)
    rw [eP,eQ] at t
    exact t
   ·rw [decide_eq_false hab,cond_false]
    have t:=one 0 1 b l' rfl (by omega) (by rw [eQ];simp) hb (by rw [eP,eQ,mrg_cons,if_neg hab];rfl)
    rw [eP,eQ] at t
    exact t
end
theorem jn_len:∀(l:List Sn) (c:Sn),(jn c l).length≤l.length+1
 |[],c=>Nat.le_refl _
 |x::l,c=>by
  unfold jn
  split
  ·have:=jn_len l ⟨c.lo,max c.hi x.hi⟩;simp only [length_cons];omega
  ·have:=jn_len l x;simp only [length_cons];omega
theorem can_len (l:List Sn):(can zq l).length≤l.length:=by
 have h:=srtG_len gcmp_lo l
 unfold can jnL
 cases e:zt zq l with
 |nil=>simp
 |cons x r=>rw [e] at h;simp only [length_cons] at h;have:=jn_len r x;simp only;omega
theorem can_one (s:Sn) (h:s.lo≤s.hi):can zq [s]=[s] :=
 (can_rg gcmp_lo (by intro t ht;rw [List.mem_singleton.1 ht];exact h)).unique ⟨⟨h,(fun _ h=>by cases h),trivial⟩,fun _=>Iff.rfl⟩
theorem can_bd {l:List Sn} (h:Bd l):Bd (can zq l):=fun s hs=>by
 have hr:=can_rg gcmp_lo (l:=l) fun s hs=>(h s hs).2.1
 have hn:=cn_mem hr.1 hs
 obtain ⟨t,ht,h1,h2⟩:=(hr.2 s.lo).1 ⟨s,hs,Int.le_refl _,hn⟩
 obtain ⟨u,hu,h3,h4⟩:=(hr.2 s.hi).1 ⟨s,hs,hn,Int.le_refl _⟩
 have b1:=h t ht
 have b2:=h u hu
 omega
open Classical in
noncomputable def Jn (l:GS Sn):GS Sn:=if l.l.length≤1073741824∧Bd l.l then (if l.l.length < 2 then l else GS.some (can zq l.l)) else GS.nil
theorem Jn_len (l:GS Sn):(Jn l).l.length≤l.l.length:=by
 unfold Jn
 split
 ·split
  ·exact Nat.le_refl _
  ·exact can_len l.l
 ·simp [GS.nil]
theorem Jn_l {l:GS Sn} (h1:l.l.length≤1073741824) (h2:Bd l.l):(Jn l).l=can zq l.l:=by
 unfold Jn
 rw [if_pos ⟨h1,h2⟩]
 split
 ·rename_i h
  cases e:l.l with
  |nil=>rw [can_nil]
  |cons s r =>
   cases r with
   |nil=>rw [can_one s (h2 s (by rw [e];exact List.mem_cons_self)).2.1]
   |cons t r=>rw [e] at h;simp only [length_cons] at h;omega
 ·rfl
theorem rjoin_eq {l:GS Sn} (h1:l.l.length≤1073741824) (h2:Bd l.l):r_Join Jn l=Jn l:=by
 unfold r_Join
 by_cases h:l.l.length < 2
 ·rw [decide_eq_true (show ((l.l.length:Int) < 2) by omega),cond_true]
  unfold Jn;rw [if_pos ⟨h1,h2⟩,if_pos h]
 ·rw [decide_eq_false (show ¬((l.l.length:Int) < 2) by omega),cond_false]
  generalize hp:cutG l 0 (l.l.length / 2)=p
  generalize hq:cutG l (l.l.length / 2) l.l.length=q
  have sp:∀s∈p.l,s∈l.l:=by rw [← hp];exact cut_sub l _ _
  have sq:∀s∈q.l,s∈l.l:=by rw [← hq];exact cut_sub l _ _
  have lp:p.l.length≤1073741824:=by rw [← hp,yo];omega
  have lq:q.l.length≤1073741824:=by rw [← hq,yo];omega
  have bp:Bd p.l:=fun s hs=>h2 s (sp s hs)
  have bq:Bd q.l:=fun s hs=>h2 s (sq s hs)
  have ep:=Jn_l lp bp
  have eq:=Jn_l lq bq
  have hsplit:∀x,In l.l x↔In p.l x∨In q.l x:=fun x=>by
   rw [← In_append,← hp,← hq]
   unfold cutG
   rw [GS.some_l,GS.some_l,List.drop_zero,List.take_length,List.take_append_drop]
  have rp:=can_rg gcmp_lo (l:=p.l) fun s hs=>(bp s hs).2.1
  have rq:=can_rg gcmp_lo (l:=q.l) fun s hs=>(bq s hs).2.1
  have rl:=can_rg gcmp_lo (l:=l.l) fun s hs=>(h2 s hs).2.1
  have jp:=Jn_len p
  have jq:=Jn_len q
  have hm:Rg (In l.l) (jnL (mrg (Jn p).l (Jn q).l)):=by
   rw [ep,eq]
   refine (jnL_rg (fun s hs=>?_) (mrg_srt _ _ (cn_srt rp.1) (cn_srt rq.1))).congr fun x=>?_
   ·rcases List.mem_append.1 ((mrg_perm _ _).mem_iff.1 hs) with k|k
    ·exact cn_mem rp.1 k
    ·exact cn_mem rq.1 k
   ·rw [In_perm (mrg_perm _ _),In_append,rp.2,rq.2,hsplit]
  have hcan:=hm.unique rl
  have hne:mrg (Jn p).l (Jn q).l≠[]:=fun e=>by
   rw [e] at hm
   cases el:l.l with
   |nil=>rw [el] at h;simp at h
   |cons s r =>
    have hs:=(h2 s (by rw [el];exact List.mem_cons_self)).2.1
    exact In_nil ((hm.2 s.lo).2 ⟨s,by rw [el];exact List.mem_cons_self,Int.le_refl _,hs⟩)
  rcases join8 (p:=Jn p) (q:=Jn q) (by omega) (by omega) (by rw [ep];exact can_bd bp) (by rw [eq];exact can_bd bq) with ⟨e,_⟩|⟨i',k',e⟩
  ·exact absurd e hne
  ·rw [e]
   dsimp only
   rw [hcan]
   unfold Jn;rw [if_pos ⟨h1,h2⟩,if_neg h]
end Go.VS

namespace Go.VS
open Go
theorem r_Join_len {J:GS Sn→GS Sn} {l:GS Sn} (hl:l.l.length≤1073741824) (hJ:∀x:GS Sn,(J x).l.length≤x.l.length):(r_Join J l).l.length≤l.l.length:=by
 unfold r_Join
 by_cases h:l.l.length < 2
 ·rw [decide_eq_true (show ((l.l.length:Int) < 2) by omega),cond_true];exact Nat.le_refl _
 ·rw [decide_eq_false (show ¬((l.l.length:Int) < 2) by omega),cond_false]
  have j1:=hJ (cutG l 0 (l.l.length / 2))
  have j2:=hJ (cutG l (l.l.length / 2) l.l.length)
  rw [yo] at j1 j2
  generalize J (cutG l 0 (l.l.length / 2))=p at *
  generalize J (cutG l (l.l.length / 2) l.l.length)=q at *
  have ne:=r_Join_ne p q (by omega) (by omega)
  have k:=ivt_r_Join_8 p q _ ne (by omega) (by omega)
  cases hr:r_Join_8 p q (p.l.length+q.l.length+1) with
  |x0 v i k' =>
   rw [hr] at k
   obtain ⟨k1,k2,k3⟩:=k
   simp only [GS.some_l]
   omega
  |x1=>simp [GS.nil]
  |out=>exact absurd hr ne
def JJN:Nat→GS Sn→GS Sn
 |0,_=>GS.nil
 |n+1,l=>if l.l.length≤1073741824 then r_Join (JJN n) l else GS.nil
theorem JJN_len:∀(n:Nat) (l:GS Sn),(JJN n l).l.length≤l.l.length
 |0,l=>by simp [JJN,GS.nil]
 |n+1,l=>by
  unfold JJN
  split
  ·rename_i h;exact r_Join_len h (JJN_len n)
  ·simp [GS.nil]
def JJ (l:GS Sn):GS Sn:=JJN (l.l.length+1) l
theorem JJ_len (l:GS Sn):(JJ l).l.length≤l.l.length:=JJN_len _ l
theorem T_JJN:∀(n:Nat) (l:GS Sn),l.l.length≤n→l.l.length≤1073741824→(lim cfg).pure 75 [GS.D Sn.D 2 l]=some (GS.D Sn.D 2 (JJN (n+1) l)):=by
 intro n
 induction n with
 |zero =>
  intro l hn h1
  have e:JJN (0+1) l=r_Join (JJN 0) l:=by unfold JJN;rw [if_pos h1]
  rw [e]
  exact T_r_Join (JJN 0) l h1 (fun x hx _=>by omega) (JJN_len 0)
 |succ n ih =>
  intro l hn h1
  have e:JJN (n+1+1) l=r_Join (JJN (n+1)) l:=by unfold JJN;rw [if_pos h1]
  rw [e]
  exact T_r_Join (JJN (n+1)) l h1 (fun x hx _=>ih x (by omega) (by omega)) (JJN_len (n+1))
theorem T_JJ (l:GS Sn) (h1:l.l.length≤1073741824):(lim cfg).pure 75 [GS.D Sn.D 2 l]=some (GS.D Sn.D 2 (JJ l)):=T_JJN _ l (Nat.le_refl _) h1
theorem JJN_eq:∀(n:Nat) (l:GS Sn),l.l.length≤n→l.l.length≤1073741824→Bd l.l→JJN (n+1) l=Jn l:=by
 intro n
 induction n with
 |zero =>
  intro l hn h1 h2
  unfold JJN
  rw [if_pos h1,← rjoin_eq h1 h2]
  unfold r_Join
  have h:decide ((l.l.length:Int) < 2)=true:=decide_eq_true (by omega)
  rw [h];rfl
 |succ n ih =>
  intro l hn h1 h2
  have e:JJN (n+1+1) l=r_Join (JJN (n+1)) l:=by unfold JJN;rw [if_pos h1]
  rw [e,← rjoin_eq h1 h2]
  unfold r_Join
  by_cases h:l.l.length < 2
  ·rw [decide_eq_true (show ((l.l.length:Int) < 2) by omega)];rfl
  ·have sp:∀a b,Bd (cutG l a b).l:=fun a b s hs=>h2 s (cut_sub l _ _ s hs)
   rw [ih (cutG l 0 (l.l.length / 2)) (by rw [yo];omega) (by rw [yo];omega) (sp _ _),ih (cutG l (l.l.length / 2) l.l.length) (by rw [yo];omega) (by rw [yo];omega) (sp _ _)]
theorem JJ_l {l:GS Sn} (h1:l.l.length≤1073741824) (h2:Bd l.l):(JJ l).l=can zq l.l:=by
 unfold JJ
 rw [JJN_eq _ l (Nat.le_refl _) h1 h2,Jn_l h1 h2]
end Go.VS

namespace Go.VS
open List (length_append length_cons length_nil)
open Go Go.Proofs
def r_Fit (l:GS Sn):(GS Sn) × Int :=
 bif decide ((l.l.length:Int)>64) then
  (GS.nil,2)
 else
  bif decide ((l.l.length:Int)>0) then
   bif decide (((GS.at l 0).lo) < (-1099511627776)) then
    (GS.nil,2)
   else
    bif decide (((GS.at l (w64 ((l.l.length:Int) - 1))).hi)>1099511627776) then
     (GS.nil,2)
    else
     (l,0)
  else
   (l,0)

def r_Fit_o1 (l:GS Sn):List Ora:=[.rw 6 (I (l.l.length:Int)),.dec false,.dec true,.el (.agg [I ((GS.at l 0).lo),I ((GS.at l 0).hi)]),.dec false,.el (.agg [I ((GS.at l (w64 ((l.l.length:Int) - 1))).lo),I ((GS.at l (w64 ((l.l.length:Int) - 1))).hi)])]

theorem T_r_Fit (l:GS Sn):(lim cfg).pure 74 [GS.D Sn.D 2 l]=some (.tup [GS.D Sn.D 2 ((r_Fit l).1),I ((r_Fit l).2)]):=by
 unfold r_Fit
 cases h1:decide ((l.l.length:Int)>64) with
 |true =>
  have g1:=of_decide_eq_true h1
  exact zl [.rw 6 (I (l.l.length:Int)),.dec true] (Ai h1 (Ai (zk Sn.D l) trivial)) (by kernel_rfl)
 |false =>
  have g1:=of_decide_eq_false h1
  cases h2:decide ((l.l.length:Int)>0) with
  |true =>
   have g2:=of_decide_eq_true h2
   have p1:=(el_in (s:=l) (f:=Sn.D) (k:=2) (i:=0) (by omega) (by omega))
   cases h3:decide (((GS.at l 0).lo) < (-1099511627776)) with
   |true =>
    have g3:=of_decide_eq_true h3
    exact zl [.rw 6 (I (l.l.length:Int)),.dec false,.dec true,.el (.agg [I ((GS.at l 0).lo),I ((GS.at l 0).hi)]),.dec true] (Ai h3 (Ai p1 (Ai h2 (Ai h1 (Ai (zk Sn.D l) trivial))))) (by kernel_rfl)
   |false =>
    have g3:=of_decide_eq_false h3
    have p2:=(el_in (s:=l) (f:=Sn.D) (k:=2) (i:=w64 ((l.l.length:Int) - 1)) (by simp only [length_append,length_cons,length_nil,zh] at *<;>omega) (by simp only [length_append,length_cons,length_nil,zh] at *<;>omega))
    cases h4:decide (((GS.at l (w64 ((l.l.length:Int) - 1))).hi)>1099511627776) with
    |true =>
     have g4:=of_decide_eq_true h4
     exact zl ((r_Fit_o1 l)++[.dec true]) (Ai h4 (Ai p2 (Ai h3 (Ai p1 (Ai h2 (Ai h1 (Ai (zk Sn.D l) trivial))))))) (by kernel_rfl)
    |false =>
     have g4:=of_decide_eq_false h4
     exact zl ((r_Fit_o1 l)++[.dec false]) (Ai h4 (Ai p2 (Ai h3 (Ai p1 (Ai h2 (Ai h1 (Ai (zk Sn.D l) trivial))))))) (by kernel_rfl)
  |false =>
   have g2:=of_decide_eq_false h2
   exact zl [.rw 6 (I (l.l.length:Int)),.dec false,.dec false] (Ai h2 (Ai h1 (Ai (zk Sn.D l) trivial))) (by kernel_rfl)

end Go.VS

namespace Go.VS
open Go Go.Proofs
theorem drop_tl {α:Type} {l rest:List α} {i:Nat} {x:α} (h:l.drop i=x::rest):l.drop i=x::l.drop (i+1):=by
 rw [← List.drop_drop,h];rfl
theorem valid_len {r:GS Sn} (h:r_Valid r=true):r.l.length≤64:=(valid_iff.1 h).2.2

end Go.VS

namespace Go.VS
open Go

end Go.VS

namespace Go.VS
open Go Go.Proofs
end Go.VS

namespace Go.VS
open Go
def Di (m z:Int):Int:=max (z - m) (m - z)
def Nst (m:Int) (S:Int→Prop) (v:Int):Prop:=S v∧∀z,S z→Di m v≤Di m z∧(Di m z=Di m v→v≤z)
theorem Nst.congr {m:Int} {S T:Int→Prop} {v:Int} (h:Nst m S v) (e:∀z,S z↔T z):Nst m T v:=⟨(e v).1 h.1,fun z hz=>h.2 z ((e z).2 hz)⟩
end Go.VS

namespace Go.VS
open Go
section
variable {r:GS Sn} (h:r_Valid r=true)
include h
end
end Go.VS

namespace Go.VS
open Go
def takeR (r:GS Sn) (e:Int):GS Sn:=bif (e == 2) then GS.nil else r
def takeL (L:Bool) (e:Int):Bool:=bif (e == 2) then true else L
theorem gr_len {l:List Sn} {res:GS Sn × Int} (h:GR l res):res.1.l.length≤64:=by
 rcases h with ⟨_,h2,h3,_⟩|⟨_,h⟩
 ·rw [h3];exact h2
 ·rw [h];simp [GS.nil]
def Tk (L:Bool) (S:Int→Prop) (r:GS Sn):Prop:=L=true∨(Ok r.l∧Rg S r.l)
theorem Tk.take {L:Bool} {S:Int→Prop} {res:GS Sn × Int} (h:Res S res):Tk (takeL L res.2) S (takeR res.1 res.2):=by
 unfold takeL takeR
 rcases h with ⟨h1,h2,h3⟩|h
 ·right;rw [h1];exact ⟨h2,h3⟩
 ·left;rw [h];rfl
theorem Tk.up {L:Bool} {S:Int→Prop} {r:GS Sn} (h:Tk L S r) (e:Int):Tk (takeL L e) S r:=by
 unfold takeL
 rcases h with h|h
 ·left;rw [h];cases (e == 2)<;>rfl
 ·exact .inr h
end Go.VS

namespace Go.VS
open Go

def ofF (s:Sn):List Sn:=someS s.lo s.hi
end Go.VS

namespace Go.VS
open Go
theorem cn_first {c:Sn} {r:List Sn} (h:cn (c::r)):∀s∈c::r,c.lo≤s.lo:=fun s hs=>by
 rcases List.mem_cons.1 hs with rfl|hs
 ·exact Int.le_refl _
 ·have:=h.1;have:=h.2.1 s hs;omega
theorem cn_last:∀{l:List Sn} (hn:l≠[]),cn l→∀s∈l,s.hi≤(l.getLast hn).hi
 |[s],_,_,t,ht=>by rw [List.mem_singleton.1 ht];exact Int.le_refl _
 |s::u::r,hn,h,t,ht=>by
  have ih:=cn_last (l:=u::r) (by simp) h.2.2
  rw [List.getLast_cons (by simp)]
  rcases List.mem_cons.1 ht with rfl|ht
  ·have h1:=h.2.1 u List.mem_cons_self
   have h2:=ih u List.mem_cons_self
   have h3:=cn_mem h.2.2 (s:=u) List.mem_cons_self
   omega
  ·exact ih t ht
theorem at_last {l:GS Sn} (hn:l.l≠[]) (hl:l.l.length≤1073741824):GS.at l (w64 ((l.l.length:Int) - 1))=l.l.getLast hn:=by
 have hp:=List.length_pos_iff.2 hn
 rw [zI (by omega) (by omega)]
 have e:(l.l.length:Int) - 1=((l.l.length - 1:Nat):Int):=by omega
 rw [e]
 unfold GS.at
 rw [Int.toNat_natCast,List.getD_eq_getElem?_getD,List.getElem?_eq_getElem (by omega),List.getLast_eq_getElem];rfl
theorem fit_of {J:GS Sn} {l:List Sn} (hJ:J.l=can zq l) (hl:∀s∈l,s.lo≤s.hi) (hb:J.l.length≤1073741824):GR l (r_Fit J):=by
 have hr:=can_rg gcmp_lo hl
 rw [← hJ] at hr
 unfold GR
 rw [← hJ]
 unfold r_Fit
 by_cases h1:64 < J.l.length
 ·rw [decide_eq_true (show (J.l.length:Int)>64 by omega),cond_true]
  exact .inr ⟨.inr h1,rfl⟩
 rw [decide_eq_false (show ¬(J.l.length:Int)>64 by omega),cond_false]
 by_cases h2:J.l=[]
 ·have hnil:l=[]:=by
   cases l with
   |nil=>rfl
   |cons s r =>
    exfalso
    have:=(hr.2 s.lo).2 ⟨s,List.mem_cons_self,Int.le_refl _,hl s List.mem_cons_self⟩
    rw [h2] at this
    exact In_nil this
  rw [h2,hnil]
  left
  refine ⟨(fun s hs=>by cases hs),by simp,h2,rfl⟩
 have hp:=List.length_pos_iff.2 h2
 rw [decide_eq_true (show (J.l.length:Int)>0 by omega),cond_true,at_last h2 hb]
 have h0:GS.at J 0=J.l.head h2:=by
  unfold GS.at
  show J.l.getD 0 default=_
  rw [List.getD_eq_getElem?_getD,List.getElem?_eq_getElem hp,List.head_eq_getElem];rfl
 rw [h0]
 have hfst:∀s∈J.l,(J.l.head h2).lo≤s.lo:=by
  generalize J.l=q at *
  cases q with
  |nil=>exact absurd rfl h2
  |cons s r=>exact cn_first hr.1
 have hlst:=cn_last h2 hr.1
 have mf:=List.head_mem h2
 have ml:=List.getLast_mem h2
 by_cases h3:(J.l.head h2).lo < -1099511627776
 ·rw [decide_eq_true h3,cond_true]
  refine .inr ⟨.inl fun h=>?_,rfl⟩
  obtain ⟨s,hs,k1,k2⟩:=(hr.2 _).1 ⟨_,mf,Int.le_refl _,cn_mem hr.1 mf⟩
  have:=(h s hs).1
  unfold Ar at this
  omega
 rw [decide_eq_false h3,cond_false]
 by_cases h4:(J.l.getLast h2).hi>1099511627776
 ·rw [decide_eq_true h4,cond_true]
  refine .inr ⟨.inl fun h=>?_,rfl⟩
  obtain ⟨s,hs,k1,k2⟩:=(hr.2 _).1 ⟨_,ml,cn_mem hr.1 ml,Int.le_refl _⟩
  have:=(h s hs).2
  unfold Ar at this
  omega
 rw [decide_eq_false h4,cond_false]
 refine .inl ⟨fun s hs=>?_,by omega,rfl,rfl⟩
 have hn:=hl s hs
 obtain ⟨t,ht,k1,k2⟩:=(hr.2 s.lo).2 ⟨s,hs,Int.le_refl _,hn⟩
 obtain ⟨u,hu,k3,k4⟩:=(hr.2 s.hi).2 ⟨s,hs,hn,Int.le_refl _⟩
 have b1:=hfst t ht
 have b2:=hlst u hu
 unfold Ar
 omega
theorem bd_ne {l:List Sn} (h:Bd l):∀s∈l,s.lo≤s.hi:=fun s hs=>(h s hs).2.1
theorem fit_gr {l:GS Sn} (h1:l.l.length≤1073741824) (h2:Bd l.l):GR l.l (r_Fit (JJ l)) :=
 fit_of (JJ_l h1 h2) (bd_ne h2) (by have:=JJ_len l;omega)
theorem GR.det {l l':List Sn} {r r':GS Sn × Int} (h:GR l r) (h':GR l' r') (hl:∀s∈l,s.lo≤s.hi) (hl':∀s∈l',s.lo≤s.hi) (hi:∀x,In l x↔In l' x):r.2=r'.2∧r.1.l=r'.1.l:=by
 have hc:can zq l=can zq l':=((can_rg gcmp_lo hl).congr hi).unique (can_rg gcmp_lo hl')
 have ar:∀{p q:List Sn},(∀s∈q,s.lo≤s.hi)→(∀x,In p x↔In q x)→ArL p→ArL q:=fun {p q} hq hi hp s hs=>by
  obtain ⟨t,ht,k1,k2⟩:=(hi s.lo).2 ⟨s,hs,Int.le_refl _,hq s hs⟩
  obtain ⟨u,hu,k3,k4⟩:=(hi s.hi).2 ⟨s,hs,hq s hs,Int.le_refl _⟩
  have b1:=hp t ht
  have b2:=hp u hu
  unfold Ar at *
  omega
 have ha:ArL l↔ArL l':=⟨ar hl' hi,ar hl fun x=>(hi x).symm⟩
 unfold GR at h h'
 rw [← hc,← ha] at h'
 rcases h with ⟨h1,h2,h3,h4⟩|⟨h1,h2⟩<;>rcases h' with ⟨k1,k2,k3,k4⟩|⟨k1,k2⟩
 ·exact ⟨h4.trans k4.symm,h3.trans k3.symm⟩
 ·exfalso
  rcases k1 with k1|k1
  ·exact k1 h1
  ·omega
 ·exfalso
  rcases h1 with h1|h1
  ·exact h1 k1
  ·omega
 ·rw [h2,k2];exact ⟨rfl,rfl⟩
theorem nil_gr:GR [] (r_Fit (JJ GS.nil)):=fit_gr (l:=GS.nil) (by simp [GS.nil]) (fun s hs=>by cases hs)
end Go.VS

namespace Go.VS
open List (length_set length_append length_cons length_nil)
open Go Go.Proofs
def l_same (a:GS Sn) (e:Int) (b:GS Sn) (f:Int):Bool :=
 bif (e == f) then
  bif (r_Same a b) then
   true
  else
   false
 else
  false

theorem T_l_same (a:GS Sn) (e:Int) (b:GS Sn) (f:Int) (hL_a:a.l.length≤9223372036854775807):(lim cfg).pure 21 [GS.D Sn.D 2 a,I e,GS.D Sn.D 2 b,I f]=some (B (l_same a e b f)):=by
 unfold l_same
 cases h1:(e == f) with
 |true =>
  have g1:=eq_of_beq h1
  cases h2:(r_Same a b) with
  |true =>
   exact zl [.dec true,.pure (B (r_Same a b)),.dec true] (Ai h2 (Ai (T_r_Same a b (by first|assumption|omega|(exact two_bd (by omega) (by omega))|(exact add_some (by omega))|(exact add_some' (by omega))|(exact one_some (by omega))|(exact one_some' (by omega))|(exact outside_len _ (by omega))|(exact Nat.le_trans (hJl _) (by rw [yo];omega))|(exact drop_tl (by assumption))|(simp only [zh] at *<;>omega)|(simp only [ye,yo,GS.some_l,length_set,length_append,length_cons,length_nil] at *<;>first|assumption|omega)|(simp only [ye,yo,GS.some_l,length_set,length_append,length_cons,length_nil,zh] at *<;>first|assumption|omega)|(simp at *<;>omega))) (Ai h1 trivial))) (by kernel_rfl)
  |false =>
   exact zl [.dec true,.pure (B (r_Same a b)),.dec false] (Ai h2 (Ai (T_r_Same a b (by first|assumption|omega|(exact two_bd (by omega) (by omega))|(exact add_some (by omega))|(exact add_some' (by omega))|(exact one_some (by omega))|(exact one_some' (by omega))|(exact outside_len _ (by omega))|(exact Nat.le_trans (hJl _) (by rw [yo];omega))|(exact drop_tl (by assumption))|(simp only [zh] at *<;>omega)|(simp only [ye,yo,GS.some_l,length_set,length_append,length_cons,length_nil] at *<;>first|assumption|omega)|(simp only [ye,yo,GS.some_l,length_set,length_append,length_cons,length_nil,zh] at *<;>first|assumption|omega)|(simp at *<;>omega))) (Ai h1 trivial))) (by kernel_rfl)
 |false =>
  have g1:=ne_of_beq_false h1
  exact zl [.dec false] (Ai h1 trivial) (by kernel_rfl)
end Go.VS

namespace Go.VS
open Go
section
variable (x:Sn)
end
end Go.VS

namespace Go.VS
open Go
theorem same_of {x y:GS Sn × Int} (h:x.2=y.2∧x.1.l=y.1.l):l_same x.1 x.2 y.1 y.2=true:=by
 unfold l_same
 rw [h.1,beq_self_eq_true,same_refl h.2];rfl
theorem same_eq {x y:GS Sn × Int} (h:x=y):l_same x.1 x.2 y.1 y.2=true:=same_of (by rw [h];exact ⟨rfl,rfl⟩)
theorem short_nil:(GS.nil:GS Sn).l.length≤9223372036854775807:=by simp [GS.nil]
end Go.VS

