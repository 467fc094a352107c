/- Nothing of a statement is proved in this text alone: it is part 1 of the proof's own tools, an evaluator of the code over deep values, its soundness, and what it makes of this seat's functions. Conditions: none beyond the statement's own. -/
import Derived.Test.YtmdmclbpnkdimaaGreatDoorVsRCAro0
import Derived.Tactics
import Derived.LoopN
import Derived.Scope
import Derived.LoopNIn
import Derived.OrdersIn
import Derived.TacticsIn
import Derived.RangeFuncRecord
set_option linter.unusedSimpArgs false
set_option linter.unusedVariables false
namespace Go.VS
open Go Go.RowKit

section
variable {C:Cfg} {E:Env C} {M:Mem} {m:Loc} {w:World} {g':Nat→Option Ob} {a:Act} {o:Oper} {nxt:Nat} {r:Out} {gT:Nat→D}
 {next:Act→World→Prop} {Q:Exit→Act→World→Prop}

theorem RepR.seg {ob:Ob} {c:Array Value} {xs:List D} {news:List Value} {fz:Bool} (h:RepR M m ob c) (hn:RepF M m xs ob.sz news) {off:Nat} (hl:off+xs.length≤ob.els.length) :
  RepR M m ⟨ob.els.take off++xs++ob.els.drop (off+xs.length),ob.sz,fz⟩ (c.toList.take (off * ob.sz)++news++c.toList.drop (off * ob.sz+news.length)).toArray ∧
   off * ob.sz+news.length≤c.size:=by
 have hb:(off+xs.length) * ob.sz≤c.size:=Nat.le_trans (Nat.mul_le_mul_right _ hl) h.1
 rw [Nat.add_mul] at hb
 have hnl:=hn.1
 have hle:off * ob.sz+news.length≤c.toList.length:=by simp only [Array.length_toList]; omega
 refine ⟨⟨?_,fun i d hd=>?_⟩,by omega⟩
 ·have h1:=h.1
  have e1:(ob.els.take off++xs++ob.els.drop (off+xs.length)).length=ob.els.length:=by simp; omega
  have e2:(c.toList.take (off * ob.sz)++news++c.toList.drop (off * ob.sz+news.length)).toArray.size=c.size:=by simp; omega
  rw [e2]; simp only [e1]; exact h1
 ·simp only [] at hd ⊢
  rw [seg_get hl] at hd
  split at hd
  ·rename_i hi
   obtain ⟨u,q1,q2,q3⟩:=h.2 i d hd
   refine ⟨u,q1,q2,fun j y hy=>?_⟩
   have hj:j < ob.sz:=by have:=(Array.getElem?_eq_some_iff.1 hy).1; omega
   have:(i+1) * ob.sz≤off * ob.sz:=Nat.mul_le_mul_right _ hi
   rw [Nat.add_mul] at this
   rw [List.getElem?_toArray,seg_get hle,if_pos (by omega)]
   simpa using q3 j y hy
  ·rename_i hi
   split at hd
   ·rename_i hi2
    obtain ⟨u,q1,q2,q3⟩:=hn.2 (i - off) d hd
    refine ⟨u,q1,q2,fun j y hy=>?_⟩
    have hj:j < ob.sz:=by have:=(Array.getElem?_eq_some_iff.1 hy).1; omega
    have t1:off * ob.sz≤i * ob.sz:=Nat.mul_le_mul_right _ (by omega)
    have t2:(i+1) * ob.sz≤(off+xs.length) * ob.sz:=Nat.mul_le_mul_right _ (by omega)
    rw [Nat.add_mul,Nat.add_mul] at t2
    rw [List.getElem?_toArray,seg_get hle,if_neg (by omega),if_pos (by omega)]
    have:=q3 j y hy
    rw [Nat.sub_mul] at this
    rw [show i * ob.sz+j - off * ob.sz=i * ob.sz - off * ob.sz+j by omega]; exact this
   ·rename_i hi2
    obtain ⟨u,q1,q2,q3⟩:=h.2 i d hd
    refine ⟨u,q1,q2,fun j y hy=>?_⟩
    have t1:(off+xs.length) * ob.sz≤i * ob.sz:=Nat.mul_le_mul_right _ (by omega)
    rw [Nat.add_mul] at t1
    rw [List.getElem?_toArray,seg_get hle,if_neg (by omega),if_neg (by omega)]
    simpa using q3 j y hy

theorem allOk_replicate {sz n:Nat} {d:D} (h1:d.okCells=true) (h2:d.cells.length=sz):allOk sz (List.replicate n d)=true:=by
 induction n with
 | zero=>rfl
 | succ n ih=>simp [List.replicate_succ,allOk,h1,h2,ih]

theorem run_builtin {c:Call} {b:Builtin} {s:Sem Value} {v:Value} {w':World} (ho:o.op=.call c) (hcl:c.callee=.builtin b)
  (hb:∀ consts,Go.builtin b c.argTypes o.type consts (c.args.map a.eval)=(do pure (Next.value (← s)))) (h:s.run C.P w=.ok v w'):(execOp a.eval o).run C.P w=.ok (.value v) w':=by
 unfold execOp
 simp only [ho,resolve,hcl,Sem.run_bind,Sem.run_pure,Result.andThen_ok,invoke,hb,h]

theorem clear_sound (hC:CfgOK C) {objs:List (Nat × Ob)} {c:Call} {x:Operand} (ho:o.op=.call c) (hcl:c.callee=.builtin .clear) (hca:c.args=#[x])
  (h:clearD C (zB objs) nxt c.argTypes (zQ C gT x)=some r) (hG:yx C M)
  (hT:∀ t,Rep M m (gT t) (a.tmps.getD t undef)) (hR:Rel E M m w g') (hag:∀ k∈r.rd,g' k=zB objs k)
  (hK:OpK E M m g' nxt r (fun v w'=>next (a.put o.dst v) w')):o.wp C.P a w next Q:=by
 have hx:=yb hG hT x
 have hexec:∀ {w':World},(Builtin.clear_ c.argTypes o.type #[a.eval x]).run C.P w=.ok (.tuple #[]) w'→(execOp a.eval o).run C.P w=.ok (.value (.tuple #[])) w':=by
  intro w' hrun
  refine run_builtin (b:=.clear) ho hcl (fun _=>?_) hrun
  simp only [Go.builtin,hca]
  simp
 unfold clearD at h
 split at h
 ·rename_i t ht
  split at h
  ·rename_i te hse
   obtain ⟨e,i,u1,u2,u3,u4,u5,u6⟩:=sliceElem_spec hC hse
   split at h
   ·rename_i k off len sz cap hd
    rw [hd] at hx; simp only [Rep] at hx
    obtain ⟨b,s,c0,hm,hxv,hlc,-⟩:=hx
    split at h
    ·rename_i ob hob
     split at h
     ·rename_i hc
      simp only [Bool.and_eq_true,Bool.not_eq_true',decide_eq_true_eq] at hc
      obtain ⟨⟨⟨⟨k1,k2⟩,k3⟩,k4⟩,k5⟩:=hc
      have hr:=(Option.some.inj h).symm
      have hgk:g' k=some ob:=by rw [hag k (by rw [hr]; simp),hob]
      obtain ⟨b',s',cur,tc,q1,q3,q4,q5⟩:=hR.ro.at_ k ob hgk
      rw [hm] at q1; cases q1
      obtain ⟨z1,z2⟩:=zeroOk_spec k3
      have hzs:=(zeroD_rep M m te).cells_size z1
      have hzF:=zeros_RepF (M:=M) (m:=m) k3 len
      rw [k2,← k1] at hzF
      have hl:off+(List.replicate len (zeroD te)).length≤ob.els.length:=by simpa using k5
      obtain ⟨s1,s2⟩:=q5.seg (fz:=false) hzF hl
      have hcells:(Builtin.zeroCells te.zero.cells len).toList=(zerosOf te.zero.cells (len * ob.sz)).toList:=by
       unfold Builtin.zeroCells zerosOf
       rw [show te.zero.cells.size=ob.sz by omega]
      have hfin:∀ (v:Value) (w':World),Rel E M m w' (updF r.wr g')→(v=.tuple #[])→next (a.put o.dst v) w':=by
       intro v w' hR' hv
       refine hK M m w' v (MLe.refl _) (mLe.refl _) (fun _ _=>rfl) ?_ hR'
       rw [hr,hv]; simp [Rep,zU]
      rcases Nat.eq_zero_or_pos len with hl0 | hl0
      ·subst hl0
       refine wp_value (hexec (w':=w) ?_) (hfin _ _ ?_ rfl)
       ·rw [hxv]
        simp [Builtin.clear_,ht,zw u1]
       ·rw [hr]
        have:updF [(k,some ⟨ob.els.take off++List.replicate 0 (zeroD te)++ob.els.drop (off+0),sz,false⟩)] g'=g':=by
         funext y
         simp only [updF]
         split
         ·rename_i hy
          rw [hy,hgk]
          obtain ⟨els,osz,fz⟩:=ob
          simp only at k1 k4
          simp [k1,k4]
         ·rfl
        simp only
        rw [this]; exact hR
      ·have hst:=run_storeCells_at C.P b (off * ob.sz) tc (zerosOf te.zero.cells (len * ob.sz)).toList 0 cur w q3 (by simpa using s2) (by
        refine hzF.plain ?_
        exact allOk_replicate z1 (by omega))
       refine wp_value (hexec (w':=w.setRow b (cur.toList.take (off * ob.sz)++(zerosOf te.zero.cells (len * ob.sz)).toList++cur.toList.drop (off * ob.sz+(zerosOf te.zero.cells (len * ob.sz)).toList.length)).toArray) ?_) (hfin _ _ ?_ rfl)
       ·rw [hxv]
        obtain ⟨n,rfl⟩:∃ n,len=n+1:=⟨len - 1,by omega⟩
        simp only [Nat.add_zero] at hst
        simp [Builtin.clear_,ht,zw u1,zeroValue,typeInfo,u3,u4,hcells,← k1]
        rw [hst]
        simp
       ·rw [hr]
        have h2:=hR.set (ob':=⟨ob.els.take off++List.replicate len (zeroD te)++ob.els.drop (off+len),sz,false⟩) (c':=(cur.toList.take (off * ob.sz)++(zerosOf te.zero.cells (len * ob.sz)).toList++cur.toList.drop (off * ob.sz+(zerosOf te.zero.cells (len * ob.sz)).toList.length)).toArray) hgk k4 hm q3 (by
         have hlen:=hzF.1
         simp only [List.length_replicate] at hlen
         simp only [List.size_toArray,List.length_append,List.length_take,List.length_drop,Array.length_toList] at s2 ⊢
         simp only [Array.length_toList] at hlen
         omega) (by rw [← k1]; simpa using s1)
        simpa [updF] using h2
     ·cases h
    ·cases h
   ·cases h
  ·cases h
 ·cases h
theorem len_sound (hC:CfgOK C) {c:Call} {x:Operand} (ho:o.op=.call c) (hcl:c.callee=.builtin .len) (hca:c.args=#[x])
  (h:justO nxt (lenT C c.argTypes (zQ C gT x))=some r) (hG:yx C M)
  (hT:∀ t,Rep M m (gT t) (a.tmps.getD t undef)) (hR:Rel E M m w g')
  (hK:OpK E M m g' nxt r (fun v w'=>next (a.put o.dst v) w')):o.wp C.P a w next Q:=by
 have hx:=yb hG hT x
 obtain ⟨e,he,hr⟩:=justO_inv h
 have fin:∀ n:Nat,e=I n→(Builtin.len_ c.argTypes o.type #[a.eval x]).run C.P w=.ok (goInt n) w→o.wp C.P a w next Q:=by
  intro n hn hrun
  refine wp_pure (v:=goInt n) hR hr ?_ (by rw [hn]; simp only [Rep]; rfl) hK
  refine run_builtin (b:=.len) ho hcl (fun _=>?_) hrun
  simp only [Go.builtin,hca]
  simp
 unfold lenT at he
 split at he
 ·rename_i t ht
  split at he
  ·rename_i ty hty
   obtain ⟨_,d,_,hd,_,hk,_,_⟩:=tyOf_spec (hC.ty _ _ hty)
   split at he
   ·rename_i hkk
    rw [hkk] at hk
    cases d <;> simp [tkOf] at hk
    split at he
    ·rename_i v hdx
     split at he
     ·rename_i s
      cases he
      rw [hdx] at hx; simp only [Rep] at hx
      refine fin _ rfl ?_
      simp [Builtin.len_,ht,zw hd,hx]
     ·cases he
    ·cases he
   ·rename_i el hkk
    rw [hkk] at hk
    cases d <;> simp [tkOf] at hk
    subst hk
    split at he
    ·rename_i nl els sz cap hdx
     cases he
     rw [hdx] at hx; simp only [Rep] at hx
     refine fin (if nl then 0 else els.length) (by cases nl <;> rfl) ?_
     cases nl with
     | true=>simp [Builtin.len_,ht,zw hd,(hx.1 rfl).2]
     | false =>
      obtain ⟨b,off,sp,cc,h1,_⟩:=hx.2 rfl
      simp [Builtin.len_,ht,zw hd,h1]
    ·rename_i k off len sz cap hdx
     cases he
     rw [hdx] at hx; simp only [Rep] at hx
     obtain ⟨b,s,cc,_,h1,_⟩:=hx
     refine fin _ rfl ?_
     simp [Builtin.len_,ht,zw hd,h1]
    ·cases he
   ·cases he
  ·cases he
 ·cases he
theorem cap_sound (hC:CfgOK C) {c:Call} {x:Operand} (ho:o.op=.call c) (hcl:c.callee=.builtin .cap) (hca:c.args=#[x])
  (h:justO nxt (capT C c.argTypes (zQ C gT x))=some r) (hG:yx C M)
  (hT:∀ t,Rep M m (gT t) (a.tmps.getD t undef)) (hR:Rel E M m w g')
  (hK:OpK E M m g' nxt r (fun v w'=>next (a.put o.dst v) w')):o.wp C.P a w next Q:=by
 have hx:=yb hG hT x
 obtain ⟨e,he,hr⟩:=justO_inv h
 unfold capT at he
 split at he
 ·rename_i t ht
  split at he
  ·rename_i ty hty
   obtain ⟨_,d,_,hd,_,hk,_,_⟩:=tyOf_spec (hC.ty _ _ hty)
   split at he
   ·rename_i el hkk
    rw [hkk] at hk
    cases d <;> simp [tkOf] at hk
    subst hk
    split at he
    ·rename_i nl els sz cap hdx
     split at he
     ·cases he
      rw [hdx] at hx; simp only [Rep] at hx
      refine wp_pure (v:=goInt 0) hR hr ?_ (by simp only [Rep]; rfl) hK
      refine run_builtin (b:=.cap) ho hcl (fun _=>?_) (?_:(Builtin.cap_ c.argTypes o.type #[a.eval x]).run C.P w=.ok (goInt 0) w)
      ·simp only [Go.builtin,hca]
       simp
      ·simp [Builtin.cap_,ht,zw hd,(hx.1 trivial).2]
     ·cases he
    ·cases he
   ·cases he
  ·cases he
 ·cases he

theorem foldD_sound {gd:D→D→Option D} {gv:Value→Value→Sem Value} {P:Program}
  (hg:∀ x y z v u,gd x y=some z→Rep M m x v→Rep M m y u→∃ q,(gv v u).run P w=.ok q w∧Rep M m z q):∀ (l:List D) (x z:D) (vs:List Value) (v:Value),
  foldD gd x l=some z→Rep M m x v→zU M m l vs→∃ q,(vs.foldlM gv v).run P w=.ok q w∧Rep M m z q
 | [],x,z,vs,v,h,hx,hl=>by
  simp only [zU] at hl; subst hl
  simp only [foldD,Option.some.injEq] at h; subst h
  exact ⟨v,by simp,hx⟩
 | y::l,x,z,vs,v,h,hx,hl=>by
  simp only [zU] at hl
  obtain ⟨u,r,rfl,hu,hl⟩:=hl
  simp only [foldD] at h
  split at h
  ·rename_i z' hz
   obtain ⟨q,q1,q2⟩:=hg _ _ _ _ _ hz hx hu
   obtain ⟨q',q3,q4⟩:=foldD_sound hg l z' z r q h q2 hl
   exact ⟨q',by simp only [List.foldlM_cons,Sem.run_bind,q1,Result.andThen_ok,q3],q4⟩
  ·cases h
theorem minD2_sound {P:Program} (x y z:D) (v u:Value) (h:minD2 x y=some z) (hx:Rep M m x v) (hy:Rep M m y u):∃ q,(Builtin.min2 v u).run P w=.ok q w∧Rep M m z q:=by
 unfold minD2 at h
 split at h
 ·cases h
  simp only [Rep] at hx hy; subst hx hy
  exact ⟨_,by simp only [Builtin.min2]; exact Sem.run_pure _ _ _,by simp only [Rep]⟩
 ·cases h
theorem maxD2_sound {P:Program} (x y z:D) (v u:Value) (h:maxD2 x y=some z) (hx:Rep M m x v) (hy:Rep M m y u):∃ q,(Builtin.max2 v u).run P w=.ok q w∧Rep M m z q:=by
 unfold maxD2 at h
 split at h
 ·cases h
  simp only [Rep] at hx hy; subst hx hy
  exact ⟨_,by simp only [Builtin.max2]; exact Sem.run_pure _ _ _,by simp only [Rep]⟩
 ·cases h

theorem minmax_sound {c:Call} {b:Builtin} {gd:D→D→Option D} {gv:Value→Value→Sem Value} {x:Operand} {l:List Operand} (ho:o.op=.call c) (hcl:c.callee=.builtin b) (hca:c.args.toList=x::l)
  (hb:∀ consts args y ys,args.toList=y::ys→Go.builtin b c.argTypes o.type consts args=(do pure (Next.value (← ys.foldlM gv y))))
  (hg:∀ x y z v u,gd x y=some z→Rep M m x v→Rep M m y u→∃ q,(gv v u).run C.P w=.ok q w∧Rep M m z q)
  (h:justO nxt (foldD gd (zQ C gT x) (l.map (zQ C gT)))=some r) (hG:yx C M)
  (hT:∀ t,Rep M m (gT t) (a.tmps.getD t undef)) (hR:Rel E M m w g')
  (hK:OpK E M m g' nxt r (fun v w'=>next (a.put o.dst v) w')):o.wp C.P a w next Q:=by
 obtain ⟨e,he,hr⟩:=justO_inv h
 obtain ⟨q,q1,q2⟩:=foldD_sound hg _ _ _ _ _ he (yb hG hT x) (evArgs_rep hG hT l)
 refine wp_pure (v:=q) hR hr ?_ q2 hK
 refine run_builtin (b:=b) ho hcl (fun consts=>hb consts (c.args.map a.eval) (a.eval x) (l.map a.eval) ?_) q1
 simp [hca]

end
end Go.VS

namespace Go.VS
open Go Go.RowKit

def PureOK (C:Cfg) (K:FuncId) (args:List D) (d:D):Prop :=
 ∀ (M:Mem) (w:World) (vs:Array Value),MOK M w→yx C M→TabOK C w→zU M noLoc args vs.toList →
  Calls C.P K vs w fun e w'=>∃ v M',e=.returned v∧MLe M M'∧MOK M' w'∧Rep M' noLoc d v∧(w'.os=w.os∧(C.dr=true→w.drawn≤w'.drawn))∧w'.tape=w.tape∧w'.output=w.output ∧
   w.heap.size≤w'.heap.size∧(∀ b,b < w.heap.size→w'.heap[b]?=w.heap[b]?)∧∀ b,b < w.heap.size→∀ i,M' b i=M b i
def InlOK (C:Cfg) (K:FuncId) (args:List D) (objs:List (Nat × Ob)) (nxt:Nat) (d:D) (objs':List (Nat × Ob)) (nxt':Nat):Prop :=
 ∀ (E:Env C) (M:Mem) (m:Loc) (w:World) (vs:Array Value),Rel E M m w (zB objs)→yx C M→zU M m args vs.toList→(∀ k,nxt≤k→m k=none)→(∀ o b,E.old o b→o < nxt) →
  Calls C.P K vs w fun e w'=>∃ v M' m',e=.returned v∧MLe M M'∧(∀ x,x < nxt→m' x=m x)∧(∀ x,nxt'≤x→nxt≤x→m' x=none)∧Rep M' m' d v∧Rel E M' m' w' (zB objs')

mutual
theorem Rep.names {M:Mem} {m m':Loc}:∀ {f:Nat} {d:D} {v:Value} {l:List Nat},idsD f d=some l→(∀ o∈l,∀ p,m o=some p→m' o=some p)→Rep M m d v→Rep M m' d v
 | 0,_,_,_,hi,_,_=>by simp [idsD] at hi
 | f+1,.unk,_,_,_,_,_=>by simp [Rep]
 | f+1,.val u,_,_,_,_,h=>by simpa [Rep] using h
 | f+1,.sl nl els sz cap,_,_,_,_,h=>by simpa only [Rep] using h
 | f+1,.ptr d,_,_,_,_,h=>by simpa only [Rep] using h
 | f+1,.lref o i sz sub,_,_,hi,hl,h=>by
  simp only [idsD,Option.some.injEq] at hi; subst hi
  simp only [Rep] at h ⊢
  obtain ⟨b,s,h1,h2⟩:=h
  exact ⟨b,s,hl o (by simp) _ h1,h2⟩
 | f+1,.lsl o off len sz cap,_,_,hi,hl,h=>by
  simp only [idsD,Option.some.injEq] at hi; subst hi
  simp only [Rep] at h ⊢
  obtain ⟨b,s,c,h1,h2⟩:=h
  exact ⟨b,s,c,hl o (by simp) _ h1,h2⟩
 | f+1,.agg cs,_,_,hi,hl,h=>by
  simp only [idsD] at hi
  simp only [Rep] at h ⊢
  obtain ⟨vs,h1,h2⟩:=h
  exact ⟨vs,h1,zU.names hi hl h2⟩
 | f+1,.tup cs,_,_,hi,hl,h=>by
  simp only [idsD] at hi
  simp only [Rep] at h ⊢
  obtain ⟨vs,h1,h2⟩:=h
  exact ⟨vs,h1,zU.names hi hl h2⟩
 | f+1,.fn g a b,_,_,hi,hl,h=>by
  simp only [idsD] at hi
  split at hi
  ·rename_i la lb ha hb
   cases hi
   simp only [Rep] at h ⊢
   obtain ⟨xs,ys,h1,h2,h3⟩:=h
   exact ⟨xs,ys,h1,zU.names ha (fun o ho=>hl o (List.mem_append_left _ ho)) h2,zU.names hb (fun o ho=>hl o (List.mem_append_right _ ho)) h3⟩
  ·cases hi
 | f+1,.iface t d,_,_,hi,hl,h=>by
  simp only [idsD] at hi
  simp only [Rep] at h ⊢
  obtain ⟨u,h1,h2⟩:=h
  exact ⟨u,h1,Rep.names hi hl h2⟩
 | f+1,.yld k,_,_,hi,hl,h=>by
  simp only [idsD,Option.some.injEq] at hi; subst hi
  simp only [Rep] at h ⊢
  obtain ⟨l,s,h1,h2⟩:=h
  exact ⟨l,s,hl k (by simp) _ h1,h2⟩
theorem zU.names {M:Mem} {m m':Loc}:∀ {f:Nat} {ds:List D} {vs:List Value} {l:List Nat},idsL (idsD f) ds=some l→(∀ o∈l,∀ p,m o=some p→m' o=some p)→zU M m ds vs→zU M m' ds vs
 | _,[],_,_,_,_,h=>by simpa only [zU] using h
 | f,d::ds,_,_,hi,hl,h=>by
  simp only [idsL] at hi
  split at hi
  ·rename_i la lb ha hb
   cases hi
   simp only [zU] at h ⊢
   obtain ⟨v,r,h1,h2,h3⟩:=h
   exact ⟨v,r,h1,Rep.names ha (fun o ho=>hl o (List.mem_append_left _ ho)) h2,zU.names hb (fun o ho=>hl o (List.mem_append_right _ ho)) h3⟩
  ·cases hi
end

theorem memN_iff {o:Nat}:∀ {l:List Nat},memN o l=true↔o∈l
 | []=>by simp [memN]
 | x::r=>by
  simp only [memN]
  cases h:eqb x o with
  | true=>have:=yz.1 h; subst this; simp
  | false =>
   have:=eqb_false.1 h
   simp only [cond_false,memN_iff (l:=r),List.mem_cons]
   exact ⟨.inr,fun h=>h.resolve_left (Ne.symm this)⟩
theorem liveFrom_nil (objs:List (Nat × Ob)) (f:Nat) (acc:List Nat):ze objs f [] acc=some acc:=by unfold ze; rfl
theorem liveFrom_zero (objs:List (Nat × Ob)) (o:Nat) (todo acc:List Nat):ze objs 0 (o::todo) acc=none:=by unfold ze; rfl
theorem liveFrom_succ (objs:List (Nat × Ob)) (f o:Nat) (todo acc:List Nat):ze objs (f+1) (o::todo) acc =
  bif memN o acc then ze objs f todo acc else match zB objs o with
    | some ob=>match idsL (idsD fuelD) ob.els with
     | some l=>ze objs f (todo++l) (acc++[o])
     | none=>none
    | none=>ze objs f todo (acc++[o]):=by
 rw [ze.eq_def]
 show (bif memN o acc then _ else _)=_
 congr 1
theorem liveFrom_closed (objs:List (Nat × Ob)):∀ (f:Nat) (todo acc res:List Nat),ze objs f todo acc=some res →
  (∀ o∈acc,∀ ob,zB objs o=some ob→∃ l,idsL (idsD fuelD) ob.els=some l∧∀ x∈l,x∈acc ∨ x∈todo)→acc.Nodup →
  (∀ o,o∈acc ∨ o∈todo→o∈res)∧(∀ o∈res,∀ ob,zB objs o=some ob→∃ l,idsL (idsD fuelD) ob.els=some l∧∀ x∈l,x∈res)∧res.Nodup
 | f,[],acc,res,h,hc,hn=>by
  rw [liveFrom_nil] at h; cases h
  refine ⟨fun o ho=>ho.elim id (fun h=>by cases h),fun o ho ob hob=>?_,hn⟩
  obtain ⟨l,h1,h2⟩:=hc o ho ob hob
  exact ⟨l,h1,fun x hx=>(h2 x hx).elim id (fun h=>by cases h)⟩
 | 0,o::todo,acc,res,h,_,_=>by rw [liveFrom_zero] at h; cases h
 | f+1,o::todo,acc,res,h,hc,hn=>by
  rw [liveFrom_succ] at h
  cases hm:memN o acc with
  | true =>
   rw [hm] at h; simp only [cond_true] at h
   have hmem:=memN_iff.1 hm
   obtain ⟨h1,h2⟩:=liveFrom_closed objs f todo acc res h (fun o' ho' ob hob=>by
    obtain ⟨l,q1,q2⟩:=hc o' ho' ob hob
    refine ⟨l,q1,fun x hx=>?_⟩
    rcases q2 x hx with q | q
    ·exact .inl q
    ·rcases List.mem_cons.1 q with rfl | q
     ·exact .inl hmem
     ·exact .inr q) hn
   refine ⟨fun x hx=>?_,h2⟩
   rcases hx with hx | hx
   ·exact h1 x (.inl hx)
   ·rcases List.mem_cons.1 hx with rfl | hx
    ·exact h1 x (.inl hmem)
    ·exact h1 x (.inr hx)
  | false =>
   rw [hm] at h; simp only [cond_false] at h
   have hnm:o ∉ acc:=fun hx=>by rw [memN_iff.2 hx] at hm; cases hm
   have hn':(acc++[o]).Nodup:=by
    rw [List.nodup_append]
    exact ⟨hn,by simp,fun a ha b hb=>by simp at hb; subst hb; intro e; subst e; exact hnm ha⟩
   split at h
   ·rename_i ob hob
    split at h
    ·rename_i l hl
     obtain ⟨h1,h2⟩:=liveFrom_closed objs f (todo++l) (acc++[o]) res h (fun o' ho' ob' hob'=>by
      rcases List.mem_append.1 ho' with ho' | ho'
      ·obtain ⟨l',q1,q2⟩:=hc o' ho' ob' hob'
       refine ⟨l',q1,fun x hx=>?_⟩
       rcases q2 x hx with q | q
       ·exact .inl (List.mem_append_left _ q)
       ·rcases List.mem_cons.1 q with rfl | q
        ·exact .inl (by simp)
        ·exact .inr (List.mem_append_left _ q)
      ·have:o'=o:=by simpa using ho'
       subst this
       rw [hob] at hob'; cases hob'
       exact ⟨l,hl,fun x hx=>.inr (List.mem_append_right _ hx)⟩) hn'
     refine ⟨fun x hx=>?_,h2⟩
     rcases hx with hx | hx
     ·exact h1 x (.inl (List.mem_append_left _ hx))
     ·rcases List.mem_cons.1 hx with rfl | hx
      ·exact h1 x (.inl (by simp))
      ·exact h1 x (.inr (List.mem_append_left _ hx))
    ·cases h
   ·rename_i hob
    obtain ⟨h1,h2⟩:=liveFrom_closed objs f todo (acc++[o]) res h (fun o' ho' ob' hob'=>by
     rcases List.mem_append.1 ho' with ho' | ho'
     ·obtain ⟨l',q1,q2⟩:=hc o' ho' ob' hob'
      refine ⟨l',q1,fun x hx=>?_⟩
      rcases q2 x hx with q | q
      ·exact .inl (List.mem_append_left _ q)
      ·rcases List.mem_cons.1 q with rfl | q
       ·exact .inl (by simp)
       ·exact .inr q
     ·have:o'=o:=by simpa using ho'
      subst this
      rw [hob] at hob'; cases hob') hn'
    refine ⟨fun x hx=>?_,h2⟩
    rcases hx with hx | hx
    ·exact h1 x (.inl (List.mem_append_left _ hx))
    ·rcases List.mem_cons.1 hx with rfl | hx
     ·exact h1 x (.inl (by simp))
     ·exact h1 x (.inr hx)

theorem allBelow_spec {n:Nat}:∀ {l:List Nat},allBelow n l=true→∀ o∈l,o < n
 | [],_,o,h=>by cases h
 | x::r,ha,o,h=>by
  simp only [allBelow] at ha
  cases hx:ltb x n with
  | false=>rw [hx] at ha; cases ha
  | true =>
   rw [hx] at ha
   rcases List.mem_cons.1 h with rfl | h
   ·exact ltb_iff.1 hx
   ·exact allBelow_spec ha o h
theorem oget_only (ids:List Nat):∀ (l:List (Nat × Ob)) (x:Nat),zB (only ids l) x=if x∈ids then zB l x else none
 | [],x=>by simp [only,zB]
 | (k,ob)::r,x=>by
  simp only [only]
  cases hm:memN k ids with
  | true =>
   have hk:=memN_iff.1 hm
   simp only [cond_true,zB]
   cases hkx:eqb k x with
   | true=>have:=yz.1 hkx; subst this; simp [hk]
   | false=>simp [oget_only ids r x]
  | false =>
   have hk:k ∉ ids:=fun hx=>by rw [memN_iff.2 hx] at hm; cases hm
   simp only [cond_false,zB]
   cases hkx:eqb k x with
   | true=>have:=yz.1 hkx; subst this; simp [hk,oget_only ids r k]
   | false=>simp [oget_only ids r x]
theorem oget_none_keys:∀ (l:List (Nat × Ob)) (x:Nat),x ∉ keysO l→zB l x=none
 | [],x,_=>rfl
 | (k,ob)::r,x,h=>by
  simp only [keysO,List.mem_cons,not_or] at h
  simp only [zB,eqb_false.2 (Ne.symm h.1),cond_false]
  exact oget_none_keys r x h.2
theorem memN_mem {o:Nat}:∀ {l:List Nat},memN o l=true→o∈l
 | x::l,h=>by
  unfold memN at h
  cases hx:eqb x o with
  | true=>rw [yz.1 hx]; exact List.mem_cons_self
  | false=>rw [hx] at h; exact List.mem_cons_of_mem _ (memN_mem h)
theorem sameD_eq {a b:D} (h:sameD a b=true):a=b:=by
 unfold sameD at h
 split at h
 ·split at h
  ·simp only [Bool.and_eq_true,yz] at h
   obtain ⟨⟨⟨rfl,rfl⟩,rfl⟩,rfl⟩:=h
   rfl
  ·cases h
 ·cases h
theorem sameL_eq:∀ {a b:List D},sameL a b=true→a=b
 | [],[],_=>rfl
 | a::l,b::r,h=>by
  simp only [sameL,Bool.and_eq_true] at h
  rw [sameD_eq h.1,sameL_eq h.2]
 | [],_::_,h=>by cases h
 | _::_,[],h=>by cases h
theorem sameOb_eq {a b:Option Ob} (h:sameOb a b=true):a=b:=by
 unfold sameOb at h
 split at h
 ·rename_i a
  split at h
  ·rename_i b
   simp only [Bool.and_eq_true,yz] at h
   obtain ⟨⟨h1,h2⟩,h3⟩:=h
   have h1:=sameL_eq h1
   obtain ⟨e,s,f⟩:=a
   obtain ⟨e',s',f'⟩:=b
   simp only at h1 h2 h3
   subst h1 h2
   cases f <;> cases f' <;> simp at h3 ⊢
  ·cases h
 ·cases h
theorem updF_chg {args:List D} {objs objs':List (Nat × Ob)} {ids:List Nat}:∀ (l:List Nat) {g:Nat→Option Ob} (_:∀ k∈ids,g k=zB objs k ∨ g k=zB objs' k) (x:Nat),updF (chgUpd args objs objs' ids l) g x=if x∈l then zB objs' x else g x
 | [],g,hg,x=>by simp [chgUpd,updF]
 | o::r,g,hg,x=>by
  unfold chgUpd
  split
  ·rename_i hc
   rw [updF_chg r hg]
   simp only [Bool.and_eq_true] at hc
   obtain ⟨_,h1,h2⟩:=hc
   have h2:=sameOb_eq h2
   by_cases hx:x∈r
   ·simp [hx]
   ·by_cases ho:x=o
    ·subst ho
     have:g x=zB objs' x:=by
      rcases hg x (memN_mem h1) with e | e
      ·rw [e,h2]
      ·exact e
     simp [hx,this]
    ·simp [hx,ho]
  ·simp only [updF]
   rw [updF_chg r (fun k hk=>by
    by_cases h2:k=o
    ·subst h2; right; simp
    ·simp only [h2,if_false]; exact hg k hk)]
   by_cases h1:x∈r
   ·simp [h1]
   ·by_cases h2:x=o
    ·subst h2; simp [h1]
    ·simp [h1,h2]
theorem updF_freeze (gO:Nat→Option Ob):∀ (l:List Nat) (g:Nat→Option Ob) (x:Nat),
  updF (freeze gO l) g x=if x∈l then (match gO x with | some ob=>some ⟨ob.els,ob.sz,true⟩ | none=>g x) else g x
 | [],g,x=>by simp [freeze,updF]
 | o::r,g,x=>by
  simp only [freeze]
  split
  ·rename_i ob ho
   simp only [updF,updF_freeze gO r]
   by_cases h1:x∈r
   ·simp only [h1,if_true,List.mem_cons,or_true]
    split
    ·rfl
    ·rename_i hn
     by_cases h2:x=o
     ·subst h2; rw [ho] at hn; cases hn
     ·simp [h2]
   ·by_cases h2:x=o
    ·subst h2; simp [h1,ho]
    ·simp [h1,h2]
  ·rename_i ho
   rw [updF_freeze gO r]
   by_cases h1:x∈r
   ·simp [h1]
   ·by_cases h2:x=o
    ·subst h2; simp [h1,ho]
    ·simp [h1,h2]

open Classical in
noncomputable def withObs (M:Mem) (m:Loc) (w:World) (ids:List Nat):Mem :=
 fun b o=>if ∃ k∈ids,∃ s,m k=some (b,s) then w.cell? ⟨b,o,none⟩ else M b o
theorem withObs_le {M:Mem} {m:Loc} {w:World} {ids:List Nat} (h:MOK M w):MLe M (withObs M m w ids):=by
 intro b o v hv
 unfold withObs
 split
 ·exact h b o v hv
 ·exact hv
theorem withObs_ok {M:Mem} {m:Loc} {w:World} {ids:List Nat} (h:MOK M w):MOK (withObs M m w ids) w:=by
 intro b o v hv
 unfold withObs at hv
 split at hv
 ·exact hv
 ·exact h b o v hv
theorem withObs_in {M:Mem} {m:Loc} {w:World} {ids:List Nat} {k b s:Nat} (hk:k∈ids) (hm:m k=some (b,s)) (o:Nat):withObs M m w ids b o=w.cell? ⟨b,o,none⟩:=by
 unfold withObs; rw [if_pos ⟨k,hk,s,hm⟩]
theorem withObs_out {M:Mem} {m:Loc} {w:World} {ids:List Nat} {b:Nat} (h:∀ k∈ids,∀ s,m k ≠ some (b,s)) (o:Nat):withObs M m w ids b o=M b o:=by
 unfold withObs; rw [if_neg]; rintro ⟨k,hk,s,hs⟩; exact h k hk s hs

theorem snapAll_get {g:D→Option (D × List Nat)}:∀ {ds es:List D} {rd:List Nat},snapAll g ds=some (es,rd)→es.length=ds.length ∧
  ∀ (j:Nat) (e:D),es[j]?=some e→∃ d r,ds[j]?=some d∧g d=some (e,r)∧∀ k∈r,k∈rd
 | [],es,rd,h=>by
  simp only [snapAll,Option.some.injEq,Prod.mk.injEq] at h; obtain ⟨rfl,rfl⟩:=h
  exact ⟨rfl,fun j e he=>by simp at he⟩
 | d::ds,es,rd,h=>by
  simp only [snapAll] at h
  split at h
  ·rename_i d' r' ds' r'' h1 h2
   cases h
   obtain ⟨q1,q2⟩:=snapAll_get h2
   refine ⟨by simp [q1],fun j e he=>?_⟩
   cases j with
   | zero=>simp at he; subst he; exact ⟨d,r',by simp,h1,fun k hk=>List.mem_append_left _ hk⟩
   | succ j =>
    obtain ⟨x,r,p1,p2,p3⟩:=q2 j e (by simpa using he)
    exact ⟨x,r,by simpa using p1,p2,fun k hk=>List.mem_append_right _ (p3 k hk)⟩
  ·cases h

section
variable {C:Cfg} {E:Env C} {M:Mem} {m:Loc} {w:World} {g' gO:Nat→Option Ob}
mutual
theorem snap_sound (hR:Rel E M m w g') {ids:List Nat} (hag:∀ k∈ids,g' k=gO k):∀ {f:Nat} {d e:D} {rd:List Nat} {v:Value},snap gO f d=some (e,rd)→(∀ k∈rd,k∈ids)→Rep M m d v →
  Rep (withObs M m w ids) noLoc e v
 | 0,_,_,_,_,h,_,_=>by simp [snap] at h
 | f+1,.unk,_,_,_,h,_,_=>by simp [snap] at h
 | f+1,.yld _,_,_,_,h,_,_=>by simp [snap] at h
 | f+1,.val u,e,rd,v,h,hi,hr=>by
  simp only [snap,Option.some.injEq,Prod.mk.injEq] at h; obtain ⟨rfl,rfl⟩:=h
  simpa [Rep] using hr
 | f+1,.sl nl els sz cap,e,rd,v,h,hi,hr=>by
  simp only [snap,Option.some.injEq,Prod.mk.injEq] at h; obtain ⟨rfl,rfl⟩:=h
  have hr':Rep (withObs M m w ids) m (.sl nl els sz cap) v:=hr.mono (withObs_le hR.mok) (mLe.refl _)
  simp only [Rep] at hr' ⊢
  refine ⟨hr'.1,fun hn=>?_⟩
  obtain ⟨b,o,sp,c,h1,hs,h2,h3,_,h5⟩:=hr'.2 hn
  exact ⟨b,o,sp,c,h1,hs,h2,h3,by simp,h5⟩
 | f+1,.ptr d,e,rd,v,h,hi,hr=>by
  simp only [snap,Option.some.injEq,Prod.mk.injEq] at h; obtain ⟨rfl,rfl⟩:=h
  have hr':Rep (withObs M m w ids) m (.ptr d) v:=hr.mono (withObs_le hR.mok) (mLe.refl _)
  simpa only [Rep] using hr'
 | f+1,.agg cs,e,rd,v,h,hi,hr=>by
  simp only [snap] at h
  split at h
  ·rename_i cs' r' hs
   cases h
   simp only [Rep] at hr ⊢
   obtain ⟨vs,h1,h2⟩:=hr
   exact ⟨vs,h1,snapAll_sound hR hag hs hi h2⟩
  ·cases h
 | f+1,.tup cs,e,rd,v,h,hi,hr=>by
  simp only [snap] at h
  split at h
  ·rename_i cs' r' hs
   cases h
   simp only [Rep] at hr ⊢
   obtain ⟨vs,h1,h2⟩:=hr
   exact ⟨vs,h1,snapAll_sound hR hag hs hi h2⟩
  ·cases h
 | f+1,.fn g a b,e,rd,v,h,hi,hr=>by
  simp only [snap] at h
  split at h
  ·rename_i a' r' b' r'' ha hb
   cases h
   simp only [Rep] at hr ⊢
   obtain ⟨xs,ys,h1,h2,h3⟩:=hr
   exact ⟨xs,ys,h1,snapAll_sound hR hag ha (fun k hk=>hi k (List.mem_append_left _ hk)) h2,snapAll_sound hR hag hb (fun k hk=>hi k (List.mem_append_right _ hk)) h3⟩
  ·cases h
 | f+1,.iface t d,e,rd,v,h,hi,hr=>by
  simp only [snap] at h
  split at h
  ·rename_i d' r' hs
   cases h
   simp only [Rep] at hr ⊢
   obtain ⟨u,h1,h2⟩:=hr
   exact ⟨u,h1,snap_sound hR hag hs hi h2⟩
  ·cases h
 | f+1,.lref o i sz sub,e,rd,v,h,hi,hr=>by
  simp only [snap] at h
  split at h
  ·rename_i hsub; subst hsub
   split at h
   ·rename_i ob hob
    split at h
    ·rename_i hsz; subst hsz
     split at h
     ·rename_i el hel
      split at h
      ·rename_i e' r' hs
       cases h
       have hgk:g' o=some ob:=by rw [hag o (hi o (by simp)),hob]
       obtain ⟨b,s,c,t,q1,q2,q3,q4⟩:=hR.ro.at_ o ob hgk
       obtain ⟨u,u1,u2,u3⟩:=q4.2 i el hel
       have hu:=snap_sound hR hag hs (fun k hk=>hi k (by simp [hk])) u1
       simp only [Rep] at hr ⊢
       obtain ⟨b',s',q1',hv⟩:=hr
       rw [q1] at q1'; cases q1'
       refine ⟨b,i * ob.sz+0,u,hv,hu,fun j y hy=>?_⟩
       rw [withObs_in (hi o (by simp)) q1]
       simp only [World.cell?,q2,Option.isSome_none,Bool.false_eq_true,if_false]
       rw [Nat.add_zero]
       exact u3 j y hy
      ·cases h
     ·cases h
    ·cases h
   ·cases h
  ·cases h
 | f+1,.lsl o off len sz cap,e,rd,v,h,hi,hr=>by
  simp only [snap] at h
  split at h
  ·rename_i ob hob
   split at h
   ·rename_i hc
    simp only [Bool.and_eq_true,decide_eq_true_eq] at hc
    obtain ⟨hsz,hlen⟩:=hc
    subst hsz
    split at h
    ·rename_i es r' hs
     cases h
     have hgk:g' o=some ob:=by rw [hag o (hi o (by simp)),hob]
     obtain ⟨b,s,c,t,q1,q2,q3,q4⟩:=hR.ro.at_ o ob hgk
     simp only [Rep] at hr ⊢
     obtain ⟨b',s',cc,q1',hv,c1,c2,c3,c4,c5⟩:=hr
     rw [q1] at q1'; cases q1'
     obtain ⟨hl,hget⟩:=snapAll_get hs
     have hl':es.length=len:=by rw [hl]; simp; omega
     refine ⟨by simp,fun _=>⟨b,off * ob.sz,none,cc,by rw [hl']; exact hv,fun _=>rfl,by omega,c2,by simp,RepE.ofGet fun j d' hd'=>?_⟩⟩
     obtain ⟨d0,r0,p1,p2,p3⟩:=hget j d' hd'
     rw [List.getElem?_take] at p1
     split at p1
     case isFalse=>cases p1
     rw [List.getElem?_drop] at p1
     obtain ⟨u,u1',u2,u3⟩:=q4.2 _ _ p1
     have u1:=snap_sound hR hag p2 (fun k hk=>hi k (by simp [p3 k hk])) u1'
     refine ⟨u,u1,u2,fun k y hy=>?_⟩
     rw [withObs_in (hi o (by simp)) q1]
     simp only [World.cell?,q2,Option.isSome_none,Bool.false_eq_true,if_false]
     have:=u3 k y hy
     rw [Nat.add_mul] at this
     exact this
    ·cases h
   ·cases h
  ·cases h
theorem snapAll_sound (hR:Rel E M m w g') {ids:List Nat} (hag:∀ k∈ids,g' k=gO k):∀ {f:Nat} {ds es:List D} {rd:List Nat} {vs:List Value},snapAll (snap gO f) ds=some (es,rd)→(∀ k∈rd,k∈ids)→zU M m ds vs →
  zU (withObs M m w ids) noLoc es vs
 | f,[],es,rd,vs,h,_,hr=>by
  simp only [snapAll,Option.some.injEq,Prod.mk.injEq] at h; obtain ⟨rfl,rfl⟩:=h
  simpa only [zU] using hr
 | f,d::ds,es,rd,vs,h,hi,hr=>by
  simp only [snapAll] at h
  split at h
  ·rename_i d' r' ds' r'' h1 h2
   cases h
   simp only [zU] at hr ⊢
   obtain ⟨v,r,q1,q2,q3⟩:=hr
   exact ⟨v,r,q1,snap_sound hR hag h1 (fun k hk=>hi k (List.mem_append_left _ hk)) q2,snapAll_sound hR hag h2 (fun k hk=>hi k (List.mem_append_right _ hk)) q3⟩
  ·cases h
end
end
end Go.VS

namespace Go.VS
open Go Go.RowKit

mutual
theorem flat_rep {M M':Mem} {m m':Loc}:∀ {f:Nat} {d:D} {v:Value},flat f d=true→Rep M m d v→Rep M' m' d v
 | 0,_,_,h,_=>by simp [flat] at h
 | f+1,.val u,_,_,hr=>by simpa [Rep] using hr
 | f+1,.sl true els sz cap,_,_,hr=>by
  simp only [Rep] at hr ⊢
  exact ⟨hr.1,fun h=>by cases h⟩
 | f+1,.agg cs,_,h,hr=>by
  simp only [flat] at h
  simp only [Rep] at hr ⊢
  obtain ⟨vs,h1,h2⟩:=hr
  exact ⟨vs,h1,flatL_rep h h2⟩
 | f+1,.tup cs,_,h,hr=>by
  simp only [flat] at h
  simp only [Rep] at hr ⊢
  obtain ⟨vs,h1,h2⟩:=hr
  exact ⟨vs,h1,flatL_rep h h2⟩
 | f+1,.unk,_,h,_=>by simp [flat] at h
 | f+1,.sl false _ _ _,_,h,_=>by simp [flat] at h
 | f+1,.ptr _,_,h,_=>by simp [flat] at h
 | f+1,.lref _ _ _ _,_,h,_=>by simp [flat] at h
 | f+1,.lsl _ _ _ _ _,_,h,_=>by simp [flat] at h
 | f+1,.fn _ _ _,_,h,_=>by simp [flat] at h
 | f+1,.iface _ _,_,h,_=>by simp [flat] at h
 | f+1,.yld _,_,h,_=>by simp [flat] at h
theorem flatL_rep {M M':Mem} {m m':Loc}:∀ {f:Nat} {ds:List D} {vs:List Value},flatL (flat f) ds=true→zU M m ds vs→zU M' m' ds vs
 | _,[],_,_,hr=>by simpa only [zU] using hr
 | f,d::ds,_,h,hr=>by
  simp only [flatL,Bool.and_eq_true] at h
  simp only [zU] at hr ⊢
  obtain ⟨v,r,h1,h2,h3⟩:=hr
  exact ⟨v,r,h1,flat_rep h.1 h2,flatL_rep h.2 h3⟩
end

mutual
theorem snap_rd {gO:Nat→Option Ob}:∀ {f:Nat} {d e:D} {rd:List Nat},snap gO f d=some (e,rd)→∀ k∈rd,∃ ob,gO k=some ob
 | 0,_,_,_,h=>by simp [snap] at h
 | f+1,.unk,_,_,h=>by simp [snap] at h
 | f+1,.yld _,_,_,h=>by simp [snap] at h
 | f+1,.val u,e,rd,h=>by
  simp only [snap,Option.some.injEq,Prod.mk.injEq] at h; obtain ⟨rfl,rfl⟩:=h; intro k hk; cases hk
 | f+1,.sl nl els sz cap,e,rd,h=>by
  simp only [snap,Option.some.injEq,Prod.mk.injEq] at h; obtain ⟨rfl,rfl⟩:=h; intro k hk; cases hk
 | f+1,.ptr d,e,rd,h=>by
  simp only [snap,Option.some.injEq,Prod.mk.injEq] at h; obtain ⟨rfl,rfl⟩:=h; intro k hk; cases hk
 | f+1,.agg cs,e,rd,h=>by
  simp only [snap] at h
  split at h
  ·rename_i cs' r' hs; cases h; exact snapAll_rd hs
  ·cases h
 | f+1,.tup cs,e,rd,h=>by
  simp only [snap] at h
  split at h
  ·rename_i cs' r' hs; cases h; exact snapAll_rd hs
  ·cases h
 | f+1,.fn g a b,e,rd,h=>by
  simp only [snap] at h
  split at h
  ·rename_i a' r' b' r'' ha hb
   cases h
   intro k hk
   rcases List.mem_append.1 hk with hk | hk
   ·exact snapAll_rd ha k hk
   ·exact snapAll_rd hb k hk
  ·cases h
 | f+1,.iface t d,e,rd,h=>by
  simp only [snap] at h
  split at h
  ·rename_i d' r' hs; cases h; exact snap_rd hs
  ·cases h
 | f+1,.lref o i sz sub,e,rd,h=>by
  simp only [snap] at h
  split at h
  ·split at h
   ·rename_i ob hob
    split at h
    ·split at h
     ·split at h
      ·rename_i e' r' hs
       cases h
       intro k hk
       rcases List.mem_cons.1 hk with rfl | hk
       ·exact ⟨ob,hob⟩
       ·exact snap_rd hs k hk
      ·cases h
     ·cases h
    ·cases h
   ·cases h
  ·cases h
 | f+1,.lsl o off len sz cap,e,rd,h=>by
  simp only [snap] at h
  split at h
  ·rename_i ob hob
   split at h
   ·split at h
    ·rename_i es r' hs
     cases h
     intro k hk
     rcases List.mem_cons.1 hk with rfl | hk
     ·exact ⟨ob,hob⟩
     ·exact snapAll_rd hs k hk
    ·cases h
   ·cases h
  ·cases h
theorem snapAll_rd {gO:Nat→Option Ob}:∀ {f:Nat} {ds es:List D} {rd:List Nat},snapAll (snap gO f) ds=some (es,rd)→∀ k∈rd,∃ ob,gO k=some ob
 | f,[],es,rd,h=>by
  simp only [snapAll,Option.some.injEq,Prod.mk.injEq] at h; obtain ⟨rfl,rfl⟩:=h; intro k hk; cases hk
 | f,d::ds,es,rd,h=>by
  simp only [snapAll] at h
  split at h
  ·rename_i d' r' ds' r'' h1 h2
   cases h
   intro k hk
   rcases List.mem_append.1 hk with hk | hk
   ·exact snap_rd h1 k hk
   ·exact snapAll_rd h2 k hk
  ·cases h
end

structure SmOK (C:Cfg) (S:Sm):Prop where
 pure:∀ K args d,S.pure K args=some d→PureOK C K args d
 inl:∀ K args objs nxt d objs' nxt',S.inl K args objs nxt=some (d,objs',nxt')→InlOK C K args objs nxt d objs' nxt'

section
variable {C:Cfg} {S:Sm} {E:Env C} {M:Mem} {m:Loc} {w:World} {g':Nat→Option Ob} {a:Act} {o:Oper} {nxt:Nat} {r:Out} {gT:Nat→D}
 {next:Act→World→Prop} {Q:Exit→Act→World→Prop}

theorem run_callFunc (hC:CfgOK C) {K:FuncId} {f:Func} (hf:C.fn K=some f) (args:Array Value):(callFunc K args).run C.P w=.ok (.enter K args) w:=by
 have h1:=hC.fn _ _ hf
 obtain ⟨h2,h3⟩:=hC.enter _ _ hf
 have h3' : (f.name == "runtime.NumGoroutine") = false := by simpa using h3
 have h4:f.body.isNone=false:=by cases hb:f.body <;> simp_all
 have hp:(program).run C.P w=.ok C.P w:=rfl
 simp only [callFunc,Sem.run_bind,hp,Result.andThen_ok,h1,h3',h4,Bool.false_eq_true,if_false,Sem.run_pure]

theorem wp_enter {K:FuncId} {args:Array Value} {R:Ending→World→Prop} (h:(execOp a.eval o).run C.P w=.ok (.enter K args) w) (hc:Calls C.P K args w R)
  (hR:∀ e w',R e w'→∃ v,e=.returned v∧next (a.put o.dst v) w'):o.wp C.P a w next Q:=by
 unfold Oper.wp
 rw [h,Oper.upon_enter]
 refine Calls.mono hc fun e w' hr=>?_
 obtain ⟨v,rfl,hn⟩:=hR e w' hr
 exact hn

theorem callPure_sound (hS:SmOK C S) {objs:List (Nat × Ob)} {K:FuncId} {args:List D} {vs:Array Value} (hcall:(execOp a.eval o).run C.P w=.ok (.enter K vs) w)
  (h:callPure S objs nxt K args=some r) (hG:yx C M) (hA:zU M m args vs.toList) (hR:Rel E M m w g') (hag:∀ k∈r.rd,g' k=zB objs k)
  (hK:OpK E M m g' nxt r (fun v w'=>next (a.put o.dst v) w')):o.wp C.P a w next Q:=by
 unfold callPure at h
 split at h
 ·rename_i args' ids hs
  split at h
  ·rename_i d hd
   cases h
   simp only [] at hag
   have hsome:=snapAll_rd hs
   have hA':=snapAll_sound hR (gO:=zB objs) (ids:=ids) hag hs (fun k hk=>hk) hA
   refine wp_enter hcall (hS.pure _ _ _ hd _ w vs (withObs_ok hR.mok) (hG.mono (withObs_le hR.mok)) hR.tab hA') ?_
   rintro e w' ⟨v,M',rfl,k1,k2,k3,k4,k5,k6,k7,k8,k9⟩
   refine ⟨v,rfl,?_⟩
   have hblk:∀ o ob,g' o=some ob→∀ b s,m o=some (b,s)→b < w.heap.size:=by
    intro o ob ho b s hb
    obtain ⟨b',s',c,t,q1,q2,_⟩:=hR.ro.at_ o ob ho
    rw [hb] at q1; cases q1
    exact (Array.getElem?_eq_some_iff.1 q2).1
   have hMlt:∀ b,w.heap.size≤b→∀ i,M b i=none:=fun b hb i=>hR.mok.none hb i
   cases hfl:flat fuelD d with
   | true =>
    rw [hfl] at hK
    refine hK M m w' v (MLe.refl _) (mLe.refl _) (fun _ _=>rfl) (flat_rep hfl k3) ?_
    simp only [if_true,updF]
    refine ⟨⟨by rw [k4.1]; exact hR.os.1,fun q=>Nat.le_trans (hR.os.2 q) (k4.2 q)⟩,by rw [k5]; exact hR.tape,by rw [k6]; exact hR.output,Nat.le_trans hR.size k7,fun b hb=>?_,hR.frlt,hR.mfr,fun b i u hu=>?_,⟨fun x ob hx=>?_,hR.ro.excl,hR.ro.inj,hR.ro.fr⟩⟩
    ·rw [k8 b (Nat.lt_of_lt_of_le (hR.frlt b hb) hR.size)]; exact hR.keep b hb
    ·have h1:=hR.mok b i u hu
     have hb:b < w.heap.size:=World.block_lt_of_cell? w _ h1
     unfold World.cell? at h1 ⊢
     rw [k8 b hb]; exact h1
    ·obtain ⟨b,s,c,t,q1,q2,q3,q4⟩:=hR.ro.at_ x ob hx
     exact ⟨b,s,c,t,q1,by rw [k8 b (hblk x ob hx b s q1)]; exact q2,q3,q4⟩
   | false =>
    rw [hfl] at hK
    simp only [Bool.false_eq_true,if_false] at hK
    have hle:=(withObs_le (m:=m) (ids:=ids) hR.mok).trans k1
    refine hK M' m w' v hle (mLe.refl _) (fun _ _=>rfl) (k3.mono (MLe.refl _) (by intro k p hp; cases hp)) ?_
    have hg:∀ x ob,updF (freeze (zB objs) ids) g' x=some ob→∃ ob0,g' x=some ob0∧ob0.els=ob.els∧ob0.sz=ob.sz∧(ob.froz=false→ob0.froz=false∧x ∉ ids):=by
     intro x ob hx
     rw [updF_freeze] at hx
     split at hx
     ·rename_i hin
      split at hx
      ·rename_i ob1 hob1
       cases hx
       exact ⟨ob1,by rw [hag x hin,hob1],rfl,rfl,by simp⟩
      ·rename_i hno
       rw [hag x hin,hno] at hx; cases hx
     ·rename_i hnin
      exact ⟨ob,hx,rfl,rfl,fun hf=>⟨hf,hnin⟩⟩
    refine ⟨⟨by rw [k4.1]; exact hR.os.1,fun q=>Nat.le_trans (hR.os.2 q) (k4.2 q)⟩,by rw [k5]; exact hR.tape,by rw [k6]; exact hR.output,Nat.le_trans hR.size k7,fun b hb=>?_,hR.frlt,fun b hb ho i=>?_,k2,⟨fun x ob hx=>?_,fun x ob hx hf b s hb i=>?_,fun x y ob ob' b s s' hx hy hf hbx hby=>?_,fun x ob b s hx hbx hF=>?_⟩⟩
    ·rw [k8 b (Nat.lt_of_lt_of_le (hR.frlt b hb) hR.size)]; exact hR.keep b hb
    ·have hblt:=Nat.lt_of_lt_of_le (hR.frlt b hb) hR.size
     rw [k9 b hblt,← hR.mfr b hb ho i]
     refine withObs_out (fun k hk s hs=>?_) i
     cases hgk:zB objs k with
     | some ob=>exact ho k (hR.ro.fr k ob b s (by rw [hag k hk,hgk]) hs hb).2
     | none=>obtain ⟨ob2,h2⟩:=hsome k hk; rw [hgk] at h2; cases h2
    ·obtain ⟨ob0,p1,p2,p3,_⟩:=hg x ob hx
     obtain ⟨b,s,c,t,q1,q2,q3,q4⟩:=hR.ro.at_ x ob0 p1
     refine ⟨b,s,c,t,q1,by rw [k8 b (hblk x ob0 p1 b s q1)]; exact q2,q3,?_⟩
     have q4':=q4.mono hle (mLe.refl m)
     unfold RepR at q4' ⊢
     rw [← p2,← p3]; exact q4'
    ·obtain ⟨ob0,p1,p2,p3,p4⟩:=hg x ob hx
     obtain ⟨f1,f2⟩:=p4 hf
     rw [k9 b (hblk x ob0 p1 b s hb)]
     rw [withObs_out (fun k hk s' hs'=>?_) i]
     ·exact hR.ro.excl x ob0 p1 f1 b s hb i
     ·cases hgk:zB objs k with
      | some ob1 =>
       have:=hR.ro.inj x k ob0 ob1 b s s' p1 (by rw [hag k hk,hgk]) f1 hb hs'
       subst this; exact f2 hk
      | none=>obtain ⟨ob2,h2⟩:=hsome k hk; rw [hgk] at h2; cases h2
    ·obtain ⟨ob0,p1,_,_,p4⟩:=hg x ob hx
     obtain ⟨ob1,r1,_⟩:=hg y ob' hy
     exact hR.ro.inj x y ob0 ob1 b s s' p1 r1 (p4 hf).1 hbx hby
    ·obtain ⟨ob0,p1,_,_,p4⟩:=hg x ob hx
     obtain ⟨f1,f2⟩:=hR.ro.fr x ob0 b s p1 hbx hF
     refine ⟨?_,f2⟩
     cases hfz:ob.froz with
     | true=>rfl
     | false=>rw [(p4 hfz).1] at f1; cases f1
  ·cases h
 ·cases h

theorem callInl_sound (hS:SmOK C S) {objs:List (Nat × Ob)} {K:FuncId} {args:List D} {vs:Array Value} (hcall:(execOp a.eval o).run C.P w=.ok (.enter K vs) w)
  (h:callInl S objs nxt K args=some r) (hG:yx C M) (hA:zU M m args vs.toList) (hR:Rel E M m w g') (hag:∀ k∈r.rd,g' k=zB objs k)
  (hf:∀ k,nxt≤k→k < r.nxt→m k=none)
  (hK:OpK E M m g' nxt r (fun v w'=>next (a.put o.dst v) w')):o.wp C.P a w next Q:=by
 unfold callInl at h
 split at h
 ·rename_i l hl
  split at h
  ·rename_i ids hids
   cases hbel:allBelow nxt ids with
   | false=>rw [hbel] at h; cases h
   | true =>
    rw [hbel] at h; simp only [cond_true] at h
    split at h
    ·rename_i d objs' nxt' hinl
     cases hlt:ltb nxt' nxt with
     | true=>rw [hlt] at h; cases h
     | false =>
      rw [hlt] at h; simp only [cond_false,Option.some.injEq] at h
      subst h
      simp only [] at hag hf
      have hle:nxt≤nxt':=by have:=ltb_false.1 hlt; omega
      have hbelow:=allBelow_spec hbel
      obtain ⟨c1,c2,_⟩:=liveFrom_closed objs 256 l [] ids hids (fun o ho=>by cases ho) List.nodup_nil
      let mc:Loc:=fun x=>if x < nxt then m x else none
      have hmc:∀ o∈ids,∀ p,m o=some p→mc o=some p:=fun o ho p hp=>by simp only [mc,hbelow o ho,if_true,hp]
      have hmc':∀ o p,mc o=some p→m o=some p:=fun o p hp=>by
       simp only [mc] at hp; split at hp
       ·exact hp
       ·cases hp
      have hA':zU M mc args vs.toList:=zU.names hl (fun o ho=>hmc o (c1 o (.inr ho))) hA
      let E':Env C:=⟨fun b=>b < w.heap.size∧∀ o ob,o∈ids→g' o=some ob→ob.froz=false→∀ s,m o ≠ some (b,s),w,M,
       fun o b=>o∈ids∧∃ ob s,g' o=some ob∧ob.froz=true∧m o=some (b,s),
       fun k cs hk=>by
        obtain ⟨t,fr,h2⟩:=hR.tab k cs hk
        refine ⟨⟨(Array.getElem?_eq_some_iff.1 h2).1,fun y oby hy hgy hfy s' hmy=>?_⟩,t,fr,h2⟩
        have:=(hR.ro.fr y oby k s' hgy hmy (E.sd k cs hk).1).1
        rw [hfy] at this; cases this⟩
      have hgc:∀ x ob,zB (only ids objs) x=some ob→x∈ids∧g' x=some ob∧zB objs x=some ob:=by
       intro x ob hx
       rw [oget_only] at hx
       split at hx
       ·rename_i hin; exact ⟨hin,by rw [hag x hin,hx],hx⟩
       ·cases hx
      have hRc:Rel E' M mc w (zB (only ids objs)):=by
       refine ⟨⟨rfl,fun _=>Nat.le_refl _⟩,rfl,rfl,Nat.le_refl _,fun _ _=>rfl,fun b hb=>hb.1,fun _ _ _ _=>rfl,hR.mok,⟨fun x ob hx=>?_,fun x ob hx hfz b s hb=>?_,fun x y ob ob' b s s' hx hy hfz hbx hby=>?_,fun x ob b s hx hbx hF=>?_⟩⟩
       ·obtain ⟨p1,p2,p3⟩:=hgc x ob hx
        obtain ⟨b,s,c,t,q1,q2,q3,q4⟩:=hR.ro.at_ x ob p2
        refine ⟨b,s,c,t,hmc x p1 _ q1,q2,q3,q4.1,fun i d' hd'=>?_⟩
        obtain ⟨u,u1,u2,u3⟩:=q4.2 i d' hd'
        refine ⟨u,?_,u2,u3⟩
        obtain ⟨le,e1,e2⟩:=c2 x p1 ob p3
        have hmem:∀ (els:List D) (l:List Nat) (j:Nat),idsL (idsD fuelD) els=some l→els[j]?=some d'→∃ l',idsD fuelD d'=some l'∧∀ x∈l',x∈l:=by
         intro els
         induction els with
         | nil=>intro l j _ hj; simp at hj
         | cons e els ih =>
          intro l j hl' hj
          simp only [idsL] at hl'
          split at hl'
          ·rename_i la lb ha hb
           cases hl'
           cases j with
           | zero=>simp at hj; subst hj; exact ⟨la,ha,fun x hx=>List.mem_append_left _ hx⟩
           | succ j =>
            obtain ⟨l',r1,r2⟩:=ih lb j hb (by simpa using hj)
            exact ⟨l',r1,fun x hx=>List.mem_append_right _ (r2 x hx)⟩
          ·cases hl'
        obtain ⟨l',r1,r2⟩:=hmem ob.els le i e1 hd'
        exact Rep.names r1 (fun o ho=>hmc o (e2 o (r2 o ho))) u1
       ·obtain ⟨p1,p2,p3⟩:=hgc x ob hx
        exact hR.ro.excl x ob p2 hfz b s (hmc' _ _ hb)
       ·obtain ⟨p1,p2,p3⟩:=hgc x ob hx
        obtain ⟨r1,r2,r3⟩:=hgc y ob' hy
        exact hR.ro.inj x y ob ob' b s s' p2 r2 hfz (hmc' _ _ hbx) (hmc' _ _ hby)
       ·obtain ⟨p1,p2,p3⟩:=hgc x ob hx
        have hm':=hmc' _ _ hbx
        cases hfz:ob.froz with
        | true=>exact ⟨rfl,p1,ob,s,p2,hfz,hm'⟩
        | false=>exact absurd hm' (hF.2 x ob p1 p2 hfz s)
      refine wp_enter hcall (hS.inl _ _ _ _ _ _ _ hinl E' M mc w vs hRc hG hA' (fun k hk=>by simp only [mc]; rw [if_neg (by omega)]) (fun o b ho=>hbelow o ho.1)) ?_
      rintro e w' ⟨v,M',m',rfl,k1,k2,k3,k4,k5⟩
      refine ⟨v,rfl,?_⟩
      let m'':Loc:=fun x=>if x < nxt' then m' x else m x
      have hle':mLe m' m'':=by
       intro x p hp
       simp only [m'']
       split
       ·exact hp
       ·rename_i hx; rw [k3 x (by omega) (by omega)] at hp; cases hp
      have hlt_eq:∀ x,x < nxt→m'' x=m x:=by
       intro x hx
       simp only [m'',show x < nxt' by omega,if_true,k2 x hx,mc,hx]
      have hmm:mLe m m'':=by
       intro x p hp
       by_cases hx:x < nxt
       ·rw [hlt_eq x hx]; exact hp
       ·by_cases hx':x < nxt'
        ·rw [hf x (by omega) hx'] at hp; cases hp
        ·simp only [m'',hx',if_false]; exact hp
      have hobj':∀ x ob,zB objs' x=some ob→∀ p,m'' x=some p→m' x=some p:=by
       intro x ob hx p hp
       obtain ⟨b,s,c,t,q1,_⟩:=k5.ro.at_ x ob hx
       rw [hle' x _ q1] at hp
       rw [q1]; exact hp
      have hupd:∀ x,updF (chgUpd args objs objs' ids (ids++keysO objs')) g' x=if x∈ids ∨ x∈keysO objs' then zB objs' x else g' x:=by
       intro x; rw [updF_chg _ (fun k hk=>.inl (hag k hk))]; simp only [List.mem_append]
      have hcase:∀ x ob,updF (chgUpd args objs objs' ids (ids++keysO objs')) g' x=some ob→zB objs' x=some ob ∨ (g' x=some ob∧x ∉ ids∧zB objs' x=none):=by
       intro x ob hx
       rw [hupd] at hx
       split at hx
       ·exact .inl hx
       ·rename_i hn
        rw [not_or] at hn
        exact .inr ⟨hx,hn.1,oget_none_keys _ _ hn.2⟩
      have hold:∀ x ob,g' x=some ob→x ∉ ids→∀ b s,m'' x=some (b,s)→m x=some (b,s):=by
       intro x ob hx hn b s hb
       obtain ⟨b',s',c,t,q1,_⟩:=hR.ro.at_ x ob hx
       rw [hmm x _ q1] at hb
       rw [q1]; exact hb
      have hblk:∀ x ob,g' x=some ob→∀ b s,m x=some (b,s)→b < w.heap.size:=by
       intro o ob ho b s hb
       obtain ⟨b',s',c,t,q1,q2,_⟩:=hR.ro.at_ o ob ho
       rw [hb] at q1; cases q1
       exact (Array.getElem?_eq_some_iff.1 q2).1
      have hfr':∀ x ob b s,g' x=some ob→x ∉ ids→m x=some (b,s)→E'.Fr b:=by
       intro x ob b s hx hn hb
       refine ⟨hblk x ob hx b s hb,fun y oby hy hgy hfy s' hmy=>?_⟩
       have:=hR.ro.inj y x oby ob b s' s hgy hx hfy hmy hb
       subst this; exact hn hy
      have hFr:∀ b,E.Fr b→E'.Fr b:=by
       intro b hb
       refine ⟨Nat.lt_of_lt_of_le (hR.frlt b hb) hR.size,fun y oby hy hgy hfy s' hmy=>?_⟩
       have:=(hR.ro.fr y oby b s' hgy hmy hb).1
       rw [hfy] at this; cases this
      refine hK M' m'' w' v k1 hmm (fun x hx=>?_) (k4.mono (MLe.refl _) hle') ?_
      ·rcases hx with hx | hx
       ·exact hlt_eq x hx
       ·simp only [] at hx
        simp only [m'',show ¬ x < nxt' by omega,if_false]
      ·refine ⟨⟨by rw [k5.os.1]; exact hR.os.1,fun q=>Nat.le_trans (hR.os.2 q) (k5.os.2 q)⟩,by rw [k5.tape]; exact hR.tape,by rw [k5.output]; exact hR.output,Nat.le_trans hR.size k5.size,fun b hb=>?_,hR.frlt,fun b hb ho i=>?_,k5.mok,⟨fun x ob hx=>?_,fun x ob hx hfz b s hb i=>?_,fun x y ob ob' b s s' hx hy hfz hbx hby=>?_,fun x ob b s hx hbx hF=>?_⟩⟩
       ·rw [k5.keep b (hFr b hb)]; exact hR.keep b hb
       ·rw [k5.mfr b (hFr b hb) (fun o hold=>?_) i]
        ·exact hR.mfr b hb ho i
        ·obtain ⟨_,ob,s,q1,q2,q3⟩:=hold
         exact ho o (hR.ro.fr o ob b s q1 q3 hb).2
       ·rcases hcase x ob hx with hx | ⟨hx,hn,_⟩
        ·obtain ⟨b,s,c,t,q1,q2,q3,q4⟩:=k5.ro.at_ x ob hx
         exact ⟨b,s,c,t,hle' _ _ q1,q2,q3,q4.mono (MLe.refl _) hle'⟩
        ·obtain ⟨b,s,c,t,q1,q2,q3,q4⟩:=hR.ro.at_ x ob hx
         refine ⟨b,s,c,t,hmm _ _ q1,?_,q3,q4.mono k1 hmm⟩
         rw [k5.keep b (hfr' x ob b s hx hn q1)]; exact q2
       ·rcases hcase x ob hx with hx | ⟨hx,hn,_⟩
        ·exact k5.ro.excl x ob hx hfz b s (hobj' x ob hx _ hb) i
        ·have hb':=hold x ob hx hn b s hb
         rw [k5.mfr b (hfr' x ob b s hx hn hb') (fun y hy=>?_) i]
         ·exact hR.ro.excl x ob hx hfz b s hb' i
         ·obtain ⟨y1,oby,sy,q1,q2,q3⟩:=hy
          have:=hR.ro.inj x y ob oby b s sy hx q1 hfz hb' q3
          subst this; exact hn y1
       ·rcases hcase x ob hx with hx | ⟨hx,hn,_⟩
        ·have hbx':=hobj' x ob hx _ hbx
         rcases hcase y ob' hy with hy | ⟨hy,hny,_⟩
         ·exact k5.ro.inj x y ob ob' b s s' hx hy hfz hbx' (hobj' y ob' hy _ hby)
         ·have hby':=hold y ob' hy hny b s' hby
          have:=(k5.ro.fr x ob b s hx hbx' (hfr' y ob' b s' hy hny hby')).1
          rw [hfz] at this; cases this
        ·have hbx':=hold x ob hx hn b s hbx
         rcases hcase y ob' hy with hy | ⟨hy,hny,_⟩
         ·have hby':=hobj' y ob' hy _ hby
          obtain ⟨_,y1,oby,sy,q1,q2,q3⟩:=k5.ro.fr y ob' b s' hy hby' (hfr' x ob b s hx hn hbx')
          have:=hR.ro.inj x y ob oby b s sy hx q1 hfz hbx' q3
          subst this; exact absurd y1 hn
         ·exact hR.ro.inj x y ob ob' b s s' hx hy hfz hbx' (hold y ob' hy hny b s' hby)
       ·rcases hcase x ob hx with hx | ⟨hx,hn,_⟩
        ·obtain ⟨p1,y1,oby,sy,q1,q2,q3⟩:=k5.ro.fr x ob b s hx (hobj' x ob hx _ hbx) (hFr b hF)
         exact ⟨p1,(hR.ro.fr x oby b sy q1 q3 hF).2⟩
        ·exact hR.ro.fr x ob b s hx (hold x ob hx hn b s hbx) hF
    ·cases h
  ·cases h
 ·cases h
end
end Go.VS

namespace Go.VS
open Go Go.RowKit

section
variable {C:Cfg} {S:Sm} {E:Env C} {M:Mem} {m:Loc} {w:World} {g':Nat→Option Ob} {a:Act} {o:Oper} {nxt:Nat} {r:Out} {gT:Nat→D}
 {next:Act→World→Prop} {Q:Exit→Act→World→Prop}

theorem map_one {α β:Type} {f:α→β} {l:List α} {x:β} (h:l.map f=[x]):∃ a,l=[a]∧f a=x:=by
 cases l with
 | nil=>cases h
 | cons a r=>cases r with
  | nil=>simp at h; exact ⟨a,rfl,h⟩
  | cons b r=>simp at h
theorem map_two {α β:Type} {f:α→β} {l:List α} {x y:β} (h:l.map f=[x,y]):∃ a b,l=[a,b]∧f a=x∧f b=y:=by
 cases l with
 | nil=>cases h
 | cons a r=>cases r with
  | nil=>simp at h
  | cons b r=>cases r with
   | nil=>simp at h; exact ⟨a,b,rfl,h.1,h.2⟩
   | cons c r=>simp at h
theorem map_cons' {α β:Type} {f:α→β} {l:List α} {x:β} {xs:List β} (h:l.map f=x::xs):∃ a r,l=a::r∧f a=x∧r.map f=xs:=by
 cases l with
 | nil=>cases h
 | cons a r=>simp at h; exact ⟨a,r,rfl,h.1,h.2⟩

theorem builtinD_sound (hC:CfgOK C) {objs:List (Nat × Ob)} {c:Call} {b:Builtin} (ho:o.op=.call c) (hcl:c.callee=.builtin b)
  (h:builtinD C (zB objs) nxt b c.argTypes (c.args.toList.map (zQ C gT))=some r) (hG:yx C M)
  (hT:∀ t,Rep M m (gT t) (a.tmps.getD t undef)) (hR:Rel E M m w g') (hag:∀ k∈r.rd,g' k=zB objs k) (hf:∀ k,nxt≤k→k < r.nxt→m k=none)
  (hty:c.argTypes.size=c.args.size)
  (hK:OpK E M m g' nxt r (fun v w'=>next (a.put o.dst v) w')):o.wp C.P a w next Q:=by
 unfold builtinD at h
 split at h
 ·rename_i x hl
  obtain ⟨x',hx,rfl⟩:=map_one hl
  exact len_sound hC ho hcl (by apply Array.toList_inj.1; simpa using hx) h hG hT hR hK
 ·rename_i s x hl
  obtain ⟨s',x',hx,rfl,rfl⟩:=map_two hl
  have hca:c.args=#[s',x']:=by apply Array.toList_inj.1; simpa using hx
  exact append_sound hC ho hcl hca h hG hT hR hag hf (by rw [hty,hca]; rfl) hK
 ·rename_i x hl
  obtain ⟨x',hx,rfl⟩:=map_one hl
  exact clear_sound hC ho hcl (by apply Array.toList_inj.1; simpa using hx) h hG hT hR hag hK
 ·rename_i x xs hl
  obtain ⟨x',xs',hx,rfl,rfl⟩:=map_cons' hl
  refine minmax_sound (b:=.min) (gd:=minD2) (gv:=Builtin.min2) ho hcl hx (fun consts args y ys hy=>?_) (fun x y z v u=>minD2_sound x y z v u) h hG hT hR hK
  simp only [Go.builtin,Builtin.min_,hy]
 ·rename_i x xs hl
  obtain ⟨x',xs',hx,rfl,rfl⟩:=map_cons' hl
  refine minmax_sound (b:=.max) (gd:=maxD2) (gv:=Builtin.max2) ho hcl hx (fun consts args y ys hy=>?_) (fun x y z v u=>maxD2_sound x y z v u) h hG hT hR hK
  simp only [Go.builtin,Builtin.max_,hy]
 ·rename_i x hl
  obtain ⟨x',hx,rfl⟩:=map_one hl
  exact cap_sound hC ho hcl (by apply Array.toList_inj.1; simpa using hx) h hG hT hR hK
 ·cases h

theorem callD_sound (hC:CfgOK C) (hS:SmOK C S) {objs:List (Nat × Ob)} {c:Call} (ho:o.op=.call c) (h:callD C S gT objs nxt c=some r) (hG:yx C M)
  (hT:∀ t,Rep M m (gT t) (a.tmps.getD t undef)) (hR:Rel E M m w g') (hag:∀ k∈r.rd,g' k=zB objs k) (hf:∀ k,nxt≤k→k < r.nxt→m k=none)
  (hK:OpK E M m g' nxt r (fun v w'=>next (a.put o.dst v) w')):o.wp C.P a w next Q:=by
 unfold callD at h
 split at h
 ·rename_i b hcl
  split at h
  ·rename_i hty
   exact builtinD_sound hC ho hcl h hG hT hR hag hf (by simpa using hty) hK
  ·cases h
 ·rename_i f hcl
  split at h
  ·rename_i g first captured hfd
   split at h
   ·rename_i K
    have hfr:=yb hG hT f
    rw [hfd] at hfr; simp only [Rep] at hfr
    obtain ⟨xs,ys,q1,q2,q3⟩:=hfr
    unfold callK at h
    split at h
    ·rename_i fn hfn
     have hcall:(execOp a.eval o).run C.P w=.ok (.enter K ((xs++c.args.map a.eval)++ys)) w:=by
      unfold execOp
      simp only [ho,resolve,hcl,q1,Deferred.ofValue,Sem.run_bind,Sem.run_pure,Result.andThen_ok,invoke,run_callFunc hC hfn]
     have hA:zU M m (first++c.args.toList.map (zQ C gT)++captured) ((xs++c.args.map a.eval)++ys).toList:=by
      have:=(q2.append (evArgs_rep hG hT c.args.toList)).append q3
      simpa using this
     split at h
     ·exact callInl_sound hS hcall h hG hA hR hag hf hK
     ·exact callPure_sound hS hcall h hG hA hR hag hK
    ·cases h
   ·cases h
  ·cases h
 ·cases h

theorem evOp_sound (hC:CfgOK C) (hS:SmOK C S) {objs:List (Nat × Ob)} (h:evOp C S gT objs nxt o=some r) (hG:yx C M)
  (hT:∀ t,Rep M m (gT t) (a.tmps.getD t undef)) (hR:Rel E M m w g') (hag:∀ k∈r.rd,g' k=zB objs k) (hf:∀ k,nxt≤k→k < r.nxt→m k=none)
  (hK:OpK E M m g' nxt r (fun v w'=>next (a.put o.dst v) w')):o.wp C.P a w next Q:=by
 unfold evOp at h
 split at h
 case h_1 x ho=>exact move_sound (.inl ho) h hG hT hR hK
 case h_2 x ho=>exact move_sound (.inr ho) h hG hT hR hK
 case h_3 c x y ho=>exact pick_sound ho h hG hT hR hK
 case h_4 e ho=>exact alloc_sound hC ho h hR hf hK
 case h_5 e x ho=>exact box_sound ho h hG hT hR hf hK
 case h_6 t ps ho=>exact build_sound hC ho h hG hT hR hK
 case h_7 t len ps ho=>exact buildSlice_sound hC ho h hG hT hR hf hK
 case h_8 t x ho=>exact load_sound hC ho h hG hT hR hag hK
 case h_9 t x y ho=>exact store_sound hC ho h hG hT hR hag hK
 case h_10 x ho=>exact nilCheck_sound ho h hG hT hR hK
 case h_11 op t x y z ho=>exact binOp_sound hC ho h hG hT hR hK
 case h_12 op t x ho=>exact unOp_sound ho h hG hT hR hK
 case h_13 s d x ho=>exact convert_sound hC ho h hG hT hR hK
 case h_14 t x ho=>exact makeInterface_sound hC ho h hG hT hR hK
 case h_15 f p q ho=>exact makeFunc_sound ho h hG hT hR hK
 case h_16 t l c ho=>exact makeSlice_sound hC ho h hG hT hR hf hK
 case h_17 t x lo hi mx ho=>exact slice_sound hC ho h hG hT hR hag hK
 case h_18 s x f ho=>exact fieldAddr_sound hC ho h hG hT hR hK
 case h_19 s x f ho=>exact field_sound hC ho h hG hT hR hK
 case h_20 t x ix ho=>exact indexAddr_sound hC ho h hG hT hR hK
 case h_21 t x ix ho=>exact index_sound hC ho h hG hT hR hK
 case h_22 x i ho=>exact extract_sound ho h hG hT hR hK
 case h_23 c ho=>exact callD_sound hC hS ho h hG hT hR hag hf hK
 case h_24=>cases h
end
end Go.VS

namespace Go.VS
open Go Go.RowKit

section
variable {C:Cfg} {S:Sm} {gT gT':Nat→D} {objs:List (Nat × Ob)} {nxt:Nat} {o:Oper} {r:Out}

theorem map_evArg {l:List Operand} (h:∀ x∈l,zQ C gT x=zQ C gT' x):l.map (zQ C gT)=l.map (zQ C gT'):=List.map_congr_left h
theorem map_argP {l:List (Nat × Operand)} (h:∀ x∈l.map (·.2),zQ C gT x=zQ C gT' x):l.map (argP C gT)=l.map (argP C gT') :=
 List.map_congr_left fun p hp=>by simp only [argP]; rw [h p.2 (List.mem_map_of_mem hp)]
theorem evOp_congr (h:∀ x∈o.op.operands,zQ C gT x=zQ C gT' x):evOp C S gT objs nxt o=evOp C S gT' objs nxt o:=by
 obtain ⟨dst,op,type,pos,after,guard⟩:=o
 cases op <;> simp only [Op.operands] at h <;> simp only [evOp]
 case build t ps=>rw [map_argP (l:=ps.toList) (fun x hx=>h x (by simpa using hx))]
 case buildSlice t n ps=>rw [map_argP (l:=ps.toList) (fun x hx=>h x (by simpa using hx))]
 case makeFunc fn first captured =>
  rw [map_evArg (l:=first.toList) (fun x hx=>h x (by simp_all)),map_evArg (l:=captured.toList) (fun x hx=>h x (by simp_all))]
 case slice t x lo hi mx=>cases lo <;> cases hi <;> cases mx <;> simp_all
 case call c =>
  obtain ⟨callee,args,argTypes⟩:=c
  have h2:=map_evArg (C:=C) (gT:=gT) (gT':=gT') (l:=args.toList) (fun x hx=>h x (by simp [Call.operands]; exact .inr (by simpa using hx)))
  cases callee with
  | builtin b=>simp only [callD,h2]
  | value f=>simp only [callD,h2]; rw [h f (by simp [Call.operands])]
  | invoke x n=>rfl
 all_goals (first | rfl | (simp_all; done))

theorem justO_nxt {d:Option D} (h:justO nxt d=some r):nxt≤r.nxt:=by
 obtain ⟨e,_,rfl⟩:=justO_inv h; exact Nat.le_refl _
theorem just_nxt {d:D} (h:just nxt d=some r):nxt≤r.nxt:=by
 rw [just_inv h]; exact Nat.le_refl _
theorem newRow_nxt {te:Ty} {els:List D} {rd:List Nat} (h:newRow te nxt els rd=some r):nxt≤r.nxt:=by
 unfold newRow at h
 split at h
 ·cases h; exact Nat.le_succ _
 ·cases h
theorem appLsl_nxt {te:Ty} {rx:List Nat} {xs:List D} {ob:Ob} {k off len:Nat} {cap:Option Nat} (h:appLsl te nxt rx xs ob k off len cap=some r):nxt≤r.nxt:=by
 unfold appLsl at h
 split at h
 ·split at h
  ·exact newRow_nxt h
  ·cases h
 ·split at h
  ·split at h
   ·cases h; exact Nat.le_refl _
   ·split at h
    ·cases h; exact Nat.le_succ _
    ·cases h
  ·cases h
theorem appSl_nxt {te:Ty} {rx:List Nat} {xs els:List D} {nl:Bool} {sz:Nat} {cap:Option Nat} (h:appSl te nxt rx xs nl els sz cap=some r):nxt≤r.nxt:=by
 unfold appSl at h
 split at h
 ·exact newRow_nxt h
 ·split at h
  ·split at h
   ·exact newRow_nxt h
   ·cases h
  ·cases h
theorem appendE_nxt {te:Ty} {gO:Nat→Option Ob} {s x:D} (h:appendE te gO nxt s x=some r):nxt≤r.nxt:=by
 unfold appendE at h
 split at h
 ·split at h
  ·split at h
   ·cases h; exact Nat.le_refl _
   ·cases h
  ·split at h
   ·split at h
    ·exact appSl_nxt h
    ·split at h
     ·split at h
      ·exact appLsl_nxt h
      ·cases h
     ·cases h
    ·cases h
   ·cases h
 ·cases h
theorem appendZ_nxt {C:Cfg} {te:Ty} {t':TypeId} {s x:D} (h:appendZ C te nxt t' s x=some r):nxt≤r.nxt:=by
 unfold appendZ at h
 split at h
 ·split at h
  ·split at h
   ·split at h
    ·split at h
     ·split at h
      ·exact newRow_nxt h
      ·cases h
     ·cases h
    ·cases h
   ·cases h
  ·cases h
 ·cases h
theorem callD_nxt {c:Call} (h:callD C S gT objs nxt c=some r):nxt≤r.nxt:=by
 unfold callD at h
 split at h
 ·split at h
  ·unfold builtinD at h
   split at h
   ·exact justO_nxt h
   ·unfold appendD at h
    split at h
    ·split at h
     ·exact appendE_nxt h
     ·exact appendZ_nxt h
     ·cases h
    ·cases h
   ·unfold clearD at h
    split at h
    ·split at h
     ·split at h
      ·split at h
       ·split at h
        ·cases h; exact Nat.le_refl _
        ·cases h
       ·cases h
      ·cases h
     ·cases h
    ·cases h
   ·exact justO_nxt h
   ·exact justO_nxt h
   ·exact justO_nxt h
   ·cases h
  ·cases h
 ·split at h
  ·split at h
   ·unfold callK at h
    split at h
    ·split at h
     ·unfold callInl at h
      split at h
      ·split at h
       ·rename_i ids _
        cases hb:allBelow nxt ids with
        | false=>rw [hb] at h; cases h
        | true =>
         rw [hb] at h; simp only [cond_true] at h
         split at h
         ·rename_i d objs' nxt' _
          cases hlt:ltb nxt' nxt with
          | true=>rw [hlt] at h; cases h
          | false =>
           rw [hlt] at h; simp only [cond_false,Option.some.injEq] at h
           subst h
           have:=ltb_false.1 hlt
           simp only; omega
         ·cases h
       ·cases h
      ·cases h
     ·unfold callPure at h
      split at h
      ·split at h
       ·cases h; exact Nat.le_refl _
       ·cases h
      ·cases h
    ·cases h
   ·cases h
  ·cases h
 ·cases h
theorem evOp_nxt (h:evOp C S gT objs nxt o=some r):nxt≤r.nxt:=by
 unfold evOp at h
 split at h
 case h_23 c ho=>exact callD_nxt h
 case h_1 | h_2=>exact just_nxt h
 case h_6 | h_11 | h_12 | h_13=>exact justO_nxt h
 case h_15=>exact just_nxt h
 case h_24=>cases h
 all_goals
  first
  | unfold evPick at h
  | unfold evAlloc at h
  | unfold evBox at h
  | unfold evBuildSlice at h
  | unfold evLoad at h
  | unfold evStore at h
  | unfold evNilCheck at h
  | unfold evMakeInterface at h
  | unfold evMakeSlice at h
  | unfold evSlice at h
  | unfold evFieldAddr at h
  | unfold evField at h
  | unfold evIndexAddr ixSlice ixArr at h
  | unfold evIndex ixVal ixStr at h
  | unfold evExtract at h
 all_goals repeat' split at h
 all_goals first | exact justO_nxt h | exact just_nxt h | (cases h; done) | (cases h; simp [newOb])
end
end Go.VS

namespace Go.VS
open Go Go.RowKit

def foldS {β:Type}:List (Nat→Option β)→Nat→(Nat→Bool)→(Nat→β)→Nat→β
 | [],_,_,g=>g
 | e::l,k,S,g=>foldS l (k+1) S (fun x=>if S k then (e x).getD (g x) else g x)
section
variable {β:Type} {x:Nat}
theorem foldS_congr:∀ (l:List (Nat→Option β)) (k:Nat) (S S':Nat→Bool) (g g':Nat→β),g x=g' x →
  (∀ j e,l[j]?=some e→e x ≠ none→S (k+j)=S' (k+j))→foldS l k S g x=foldS l k S' g' x
 | [],_,_,_,_,_,hg,_=>hg
 | e::l,k,S,S',g,g',hg,h=>by
  simp only [foldS]
  refine foldS_congr l (k+1) S S' _ _ ?_ (fun j e' he hx=>by
   have:=h (j+1) e' (by simpa using he) hx
   rw [show k+1+j=k+(j+1) by omega]; exact this)
  cases hx:e x with
  | none=>simp [hg]
  | some v =>
   have:=h 0 e (by simp) (by rw [hx]; simp)
   simp only [Nat.add_zero] at this
   rw [this,hg]
theorem foldS_step:∀ (l:List (Nat→Option β)) (i k:Nat) (e:Nat→Option β) (S S':Nat→Bool) (g:Nat→β),l[i]?=some e→S (k+i)=false→S' (k+i)=true →
  (∀ j,j ≠ k+i→S' j=S j)→(e x ≠ none→∀ j e',l[j]?=some e'→i < j→e' x ≠ none→S (k+j)=false) →
  foldS l k S' g x=(e x).getD (foldS l k S g x)
 | [],i,k,e,S,S',g,he,_,_,_,_=>by simp at he
 | e0::l,0,k,e,S,S',g,he,hS,hS',hSS,h=>by
  simp only [List.getElem?_cons_zero,Option.some.injEq] at he; subst he
  simp only [Nat.add_zero] at hS hS' hSS
  simp only [foldS,hS,hS',if_true,Bool.false_eq_true,if_false]
  have hcongr:∀ h':Nat→β,foldS l (k+1) S' h' x=foldS l (k+1) S h' x:=fun h' =>
   foldS_congr l (k+1) S' S h' h' rfl (fun j e' _ _=>hSS _ (by omega))
  rw [hcongr]
  cases hx:e0 x with
  | none =>
   simp only [Option.getD_none]
   exact foldS_congr l (k+1) S S _ _ (by simp [hx]) (fun _ _ _ _=>rfl)
  | some v =>
   simp only [Option.getD_some]
   have hno:∀ (l:List (Nat→Option β)) (k:Nat) (g:Nat→β),(∀ j e',l[j]?=some e'→e' x ≠ none→S (k+j)=false)→foldS l k S g x=g x:=by
    intro l
    induction l with
    | nil=>intro k g _; rfl
    | cons e1 l ih =>
     intro k g hl
     simp only [foldS]
     rw [ih (k+1) _ (fun j e' he hx=>by
      have:=hl (j+1) e' (by simpa using he) hx
      rw [show k+1+j=k+(j+1) by omega]; exact this)]
     cases hx1:e1 x with
     | none=>simp
     | some u =>
      have:=hl 0 e1 (by simp) (by rw [hx1]; simp)
      simp only [Nat.add_zero] at this
      simp [this]
   rw [hno l (k+1) _ (fun j e' he hxx=>by
    have:=h (by rw [hx]; simp) (j+1) e' (by simpa using he) (by omega) hxx
    rw [show k+1+j=k+(j+1) by omega]; exact this)]
   simp [hx]
 | e0::l,i+1,k,e,S,S',g,he,hS,hS',hSS,h=>by
  simp only [foldS]
  have h0:S' k=S k:=hSS k (by omega)
  rw [h0]
  refine foldS_step l i (k+1) e S S' _ (by simpa using he) (by rw [show k+1+i=k+(i+1) by omega]; exact hS) (by rw [show k+1+i=k+(i+1) by omega]; exact hS')
   (fun j hj=>hSS j (by omega)) (fun hx j e' he' hij hx'=>?_)
  have:=h hx (j+1) e' (by simpa using he') (by omega) hx'
  rw [show k+1+j=k+(j+1) by omega]; exact this
end

def Closed (ops:Array Oper) (S:Nat→Bool):Prop:=∀ (j:Nat) (o:Oper),ops[j]?=some o→S j=true→∀ e∈o.after,Region.binds .any e=true→S e.on=true
def Back (ops:Array Oper):Prop:=∀ (i:Nat) (o:Oper),ops[i]?=some o→∀ e∈o.after,Region.binds .any e=true→e.on < i
def DirectIn (ops:Array Oper) (S:Nat→Bool) (i:Nat):Prop:=∀ o,ops[i]?=some o→∀ e∈o.after,Region.binds .any e=true→S e.on=true

theorem foldl_mask (acc:Array Nat):∀ (l:List Edge) (s:Nat) (b:Nat),(l.foldl (fun s e=>if Region.binds .any e then s ||| 2 ^ e.on ||| acc.getD e.on 0 else s) s).testBit b=true →
  s.testBit b=true ∨ ∃ e∈l,Region.binds .any e=true∧(b=e.on ∨ (acc.getD e.on 0).testBit b=true)
 | [],s,b,h=>.inl h
 | e::l,s,b,h=>by
  simp only [List.foldl_cons] at h
  rcases foldl_mask acc l _ b h with h | ⟨e',he',h1,h2⟩
  ·split at h
   ·rename_i hb
    rw [Nat.testBit_or,Nat.testBit_or,Bool.or_eq_true,Bool.or_eq_true] at h
    rcases h with (h | h) | h
    ·exact .inl h
    ·rw [Nat.testBit_two_pow] at h
     simp only [decide_eq_true_eq] at h
     exact .inr ⟨e,by simp,hb,.inl h.symm⟩
    ·exact .inr ⟨e,by simp,hb,.inr h⟩
   ·exact .inl h
  ·exact .inr ⟨e',by simp [he'],h1,h2⟩
theorem befs_spec:∀ (l:List Oper) (acc:Array Nat) (done:List Oper),acc.size=done.length →
  (∀ (i b:Nat),(acc.getD i 0).testBit b=true→∃ o,done[i]?=some o∧∃ e∈o.after.toList,Region.binds .any e=true∧(b=e.on ∨ (e.on < i∧(acc.getD e.on 0).testBit b=true))) →
  ∀ (i b:Nat),((befs acc l).getD i 0).testBit b=true→∃ o,(done++l)[i]?=some o∧∃ e∈o.after.toList,Region.binds .any e=true∧(b=e.on ∨ (e.on < i∧((befs acc l).getD e.on 0).testBit b=true))
 | [],acc,done,_,h,i,b,hb=>by simpa [befs] using h i b hb
 | o::r,acc,done,hs,h,i,b,hb=>by
  simp only [befs] at hb ⊢
  have:=befs_spec r (acc.push (o.after.toList.foldl (fun s e=>if Region.binds .any e then s ||| 2 ^ e.on ||| acc.getD e.on 0 else s) 0)) (done++[o]) (by simp [hs]) (fun i b hb=>by
   have hget:∀ k,(acc.push (o.after.toList.foldl (fun s e=>if Region.binds .any e then s ||| 2 ^ e.on ||| acc.getD e.on 0 else s) 0)).getD k 0=if k=acc.size then o.after.toList.foldl (fun s e=>if Region.binds .any e then s ||| 2 ^ e.on ||| acc.getD e.on 0 else s) 0 else acc.getD k 0:=by
    intro k
    simp only [Array.getD_eq_getD_getElem?,Array.getElem?_push]
    split <;> simp
   rw [hget] at hb
   have hlt:∀ k b,(acc.getD k 0).testBit b=true→k < acc.size:=by
    intro k b hk
    rcases Nat.lt_or_ge k acc.size with h | h
    ·exact h
    ·simp [Array.getD_eq_getD_getElem?,Array.getElem?_eq_none h] at hk
   split at hb
   ·rename_i hi
    refine ⟨o,by rw [hi,hs]; simp,?_⟩
    rcases foldl_mask acc _ _ b hb with h0 | ⟨e,he,h1,h2⟩
    ·simp at h0
    ·refine ⟨e,he,h1,h2.imp id fun h3=>?_⟩
     have:=hlt _ _ h3
     exact ⟨by omega,by rw [hget,if_neg (by omega)]; exact h3⟩
   ·rename_i hi
    obtain ⟨o',h1,e,he,h2,h3⟩:=h i b hb
    have hil:=hlt _ _ hb
    refine ⟨o',by rw [List.getElem?_append_left (by omega)]; exact h1,e,he,h2,h3.imp id fun ⟨h4,h5⟩=>⟨h4,?_⟩⟩
    rw [hget,if_neg (by omega)]; exact h5) i b hb
  simpa using this
theorem befs_edge {ops:Array Oper} {i b:Nat} (h:((befs #[] ops.toList).getD i 0).testBit b=true) :
  ∃ o,ops[i]?=some o∧∃ e∈o.after,Region.binds .any e=true∧(b=e.on ∨ (e.on < i∧((befs #[] ops.toList).getD e.on 0).testBit b=true)):=by
 have:=befs_spec ops.toList #[] [] rfl (fun i b hb=>by simp at hb) i b h
 simpa using this
theorem closed_before {ops:Array Oper} {S:Nat→Bool} (hc:Closed ops S):∀ (n i b:Nat),i≤n→DirectIn ops S i→((befs #[] ops.toList).getD i 0).testBit b=true→S b=true:=by
 intro n
 induction n with
 | zero =>
  intro i b hi hd h
  obtain ⟨o,h1,e,he,h2,h3⟩:=befs_edge h
  rcases h3 with rfl | ⟨h3,_⟩
  ·exact hd o h1 e he h2
  ·omega
 | succ n ih =>
  intro i b hi hd h
  obtain ⟨o,h1,e,he,h2,h3⟩:=befs_edge h
  rcases h3 with rfl | ⟨h3,h4⟩
  ·exact hd o h1 e he h2
  ·exact ih e.on b (by omega) (fun o' ho' e' he' hb'=>hc e.on o' ho' (hd o h1 e he h2) e' he' hb') h4
theorem ordered_iff {ops:Array Oper} {S:Nat→Bool} (hc:Closed ops S) {i j:Nat} (hi:DirectIn ops S i) (hSi:S i=false) (hne:j ≠ i) (h:ordered (befs #[] ops.toList) i j=true):S j=decide (j < i):=by
 unfold ordered at h
 split at h
 ·rename_i hlt
  rw [decide_eq_false (by omega)]
  cases hSj:S j with
  | false=>rfl
  | true =>
   have:=closed_before hc j j i (Nat.le_refl _) (fun o ho e he hb=>hc j o ho hSj e he hb) h
   rw [hSi] at this; cases this
 ·rename_i hlt
  rw [decide_eq_true (by omega)]
  exact closed_before hc i i j (Nat.le_refl _) hi h

theorem writersOK_spec {b:Array Nat} {i:Nat} {ns:List Tmp}:∀ (l:List Oper) (k:Nat),writersOK b i ns k l=true→∀ (j:Nat) (o:Oper) (d:Tmp),l[j]?=some o→o.dst=some d→d∈ns→i ≠ k+j→ordered b i (k+j)=true
 | [],_,_,j,o,d,h,_,_,_=>by simp at h
 | o0::l,k,hw,j,o,d,hj,hd,hm,hne=>by
  simp only [writersOK,Bool.and_eq_true] at hw
  cases j with
  | zero =>
   simp at hj; subst hj
   simp only [Nat.add_zero] at hne ⊢
   have h1:=hw.1
   rw [hd] at h1
   simpa [hne,hm] using h1
  | succ j =>
   have:=writersOK_spec l (k+1) hw.2 j o d (by simpa using hj) hd hm (by omega)
   rwa [show k+1+j=k+(j+1) by omega] at this
theorem opsOK_spec {ops:Array Oper} {b:Array Nat}:∀ (l:List Oper) (k:Nat),opsOK ops b k l=true→∀ (i:Nat) (o:Oper),l[i]?=some o →
  (∀ e∈o.after,Region.binds .any e=true→e.on < k+i)∧writersOK b (k+i) (namesOf ops o) 0 ops.toList=true
 | [],_,_,i,o,h=>by simp at h
 | o0::l,k,hw,i,o,hi=>by
  simp only [opsOK,Bool.and_eq_true] at hw
  cases i with
  | zero =>
   simp at hi; subst hi
   refine ⟨fun e he hb=>?_,hw.1.2⟩
   have:=List.all_eq_true.1 hw.1.1 e (by simpa using he)
   simpa [hb] using this
  | succ i =>
   have:=opsOK_spec l (k+1) hw.2 i o (by simpa using hi)
   rwa [show k+1+i=k+(i+1) by omega] at this
theorem regOK_spec {ops:Array Oper} (h:regOK ops=true):Back ops∧∀ (i j:Nat) (o oj:Oper) (d:Tmp),ops[i]?=some o→ops[j]?=some oj→oj.dst=some d→d∈namesOf ops o→j ≠ i→ordered (befs #[] ops.toList) i j=true:=by
 have:=opsOK_spec ops.toList 0 h
 refine ⟨fun i o ho e he hb=>by have:=(this i o (by simpa using ho)).1 e he hb; omega,fun i j o oj d ho hoj hd hm hne=>?_⟩
 have h1:=(this i o (by simpa using ho)).2
 have:=writersOK_spec ops.toList 0 h1 j oj d (by simpa using hoj) hd hm (by omega)
 simpa using this

theorem apartB_spec:∀ {l l':List Nat},apartB l l'=true→∀ x∈l,x ∉ l'
 | [],_,_,x,hx=>by cases hx
 | y::l,l',h,x,hx=>by
  simp only [apartB,Bool.and_eq_true,Bool.not_eq_true'] at h
  rcases List.mem_cons.1 hx with rfl | hx
  ·intro hm; have:=h.1; simp [hm] at this
  ·exact apartB_spec h.2 x hx
theorem rowOK_spec {b:Array Nat} {j:Nat} {wj:List Nat}:∀ (tr:Trace) (k:Nat),rowOK b j wj k tr=true→∀ (i:Nat) (ri wi:List Nat),tr[i]?=some (ri,wi)→j ≠ k+i →
  ordered b (k+i) j=true ∨ ∀ x∈wj,x ∉ ri∧x ∉ wi
 | [],_,_,i,ri,wi,h,_=>by simp at h
 | (r0,w0)::tr,k,hr,i,ri,wi,hi,hne=>by
  simp only [rowOK,Bool.and_eq_true,Bool.or_eq_true,decide_eq_true_eq] at hr
  cases i with
  | zero =>
   simp at hi; obtain ⟨rfl,rfl⟩:=hi
   simp only [Nat.add_zero] at hne ⊢
   rcases hr.1 with (h | h) | h
   ·exact absurd h.symm hne
   ·exact .inr fun x hx=>⟨apartB_spec h.1 x hx,apartB_spec h.2 x hx⟩
   ·exact .inl h
  | succ i =>
   have:=rowOK_spec tr (k+1) hr.2 i ri wi (by simpa using hi) (by omega)
   rwa [show k+1+i=k+(i+1) by omega] at this
theorem rowsOK_spec {b:Array Nat} {tr:Trace}:∀ (l:Trace) (k:Nat),rowsOK b tr k l=true→∀ (j:Nat) (rj wj:List Nat),l[j]?=some (rj,wj)→∀ (i:Nat) (ri wi:List Nat),tr[i]?=some (ri,wi)→k+j ≠ i →
  ordered b i (k+j)=true ∨ ∀ x∈wj,x ∉ ri∧x ∉ wi
 | [],_,_,j,rj,wj,h,_,_,_,_,_=>by simp at h
 | (r0,[])::l,k,hr,j,rj,wj,hj,i,ri,wi,hi,hne=>by
  simp only [rowsOK] at hr
  cases j with
  | zero=>simp at hj; obtain ⟨rfl,rfl⟩:=hj; exact .inr fun x hx=>by cases hx
  | succ j =>
   have:=rowsOK_spec l (k+1) hr j rj wj (by simpa using hj) i ri wi hi (by omega)
   rwa [show k+1+j=k+(j+1) by omega] at this
 | (r0,w::ws)::l,k,hr,j,rj,wj,hj,i,ri,wi,hi,hne=>by
  simp only [rowsOK,Bool.and_eq_true] at hr
  cases j with
  | zero =>
   simp at hj; obtain ⟨rfl,rfl⟩:=hj
   have:=rowOK_spec tr 0 hr.1 i ri wi hi (by omega)
   simpa using this
  | succ j =>
   have:=rowsOK_spec l (k+1) hr.2 j rj wj (by simpa using hj) i ri wi hi (by omega)
   rwa [show k+1+j=k+(j+1) by omega] at this
theorem traceOK_spec {ops:Array Oper} {tr:Trace} (h:traceOK ops tr=true) {i j:Nat} {ri wi rj wj:List Nat} (hj:tr[j]?=some (rj,wj)) (hi:tr[i]?=some (ri,wi)) (hne:j ≠ i) :
  ordered (befs #[] ops.toList) i j=true ∨ ∀ x∈wj,x ∉ ri∧x ∉ wi:=by
 have:=rowsOK_spec tr 0 h j rj wj hj i ri wi hi (by omega)
 simpa using this
end Go.VS

namespace Go.VS
open Go Go.RowKit

structure StRel (C:Cfg) (E:Env C) (M:Mem) (m:Loc) (st:St) (a:Act) (w:World):Prop where
 tm:∀ t,Rep M m (get st.tmps t) (a.tmps.getD t undef)
 n:st.n=a.tmps.size
 rel:Rel E M m w (zB st.objs)
 fresh:∀ k,st.nxt≤k→m k=none
 glob:yx C M
def Since (M0:Mem) (m0:Loc) (p:Nat) (M:Mem) (m:Loc):Prop:=MLe M0 M∧∀ x,x < p→m x=m0 x
theorem Since.refl (M:Mem) (m:Loc) (p:Nat):Since M m p M m:=⟨MLe.refl _,fun _ _=>rfl⟩

theorem undef_rep (M:Mem) (m:Loc):Rep M m (.tup []) undef:=by simp only [Rep,undef]; exact ⟨#[],rfl,by simp [zU]⟩

theorem size_put (a:Act) (dst:Option Tmp) (v:Value):(a.put dst v).tmps.size=a.tmps.size:=by cases dst <;> simp [Act.put]
theorem defers_put (a:Act) (dst:Option Tmp) (v:Value):(a.put dst v).defers=a.defers:=by cases dst <;> rfl
def effT (n:Nat) (dst:Option Tmp) (d:D):Nat→Option D:=fun t=>match dst with
 | some x=>if x=t∧t < n then some d else none
 | none=>none
theorem get_putT (n:Nat) (l:List (Nat × D)) (dst:Option Tmp) (d:D) (t:Nat):get (putT n l dst d) t=(effT n dst d t).getD (get l t):=by
 cases dst with
 | none=>rfl
 | some x =>
  simp only [putT,effT]
  cases hx:ltb x n with
  | true =>
   have:=ltb_iff.1 hx
   simp only [cond_true,get_ins]
   by_cases ht:t=x
   ·subst ht; simp [this]
   ·simp [ht,Ne.symm ht]
  | false =>
   have:=ltb_false.1 hx
   have h2:¬ (x=t∧t < n):=by rintro ⟨rfl,h⟩; exact this h
   simp [h2]
theorem put_rep {M M':Mem} {m m':Loc} {g:Nat→D} {a:Act} {n:Nat} (hn:n=a.tmps.size) (hM:MLe M M') (hm:mLe m m') (h:∀ t,Rep M m (g t) (a.tmps.getD t undef)) {dst:Option Tmp} {d:D} {v:Value} (hv:Rep M' m' d v) :
  ∀ t,Rep M' m' ((effT n dst d t).getD (g t)) ((a.put dst v).tmps.getD t undef):=by
 intro t
 cases dst with
 | none=>exact (h t).mono hM hm
 | some x =>
  simp only [effT,Act.put,Array.getD_eq_getD_getElem?]
  have ht:=h t
  rw [Array.getD_eq_getD_getElem?] at ht
  by_cases hxt:x=t
  ·subst hxt
   by_cases hlt:x < n
   ·simp [hlt,hn ▸ hlt,hv]
   ·rw [if_neg (fun hh=>hlt hh.2),Array.getElem?_setIfInBounds]
    have:¬ x < a.tmps.size:=by rw [← hn]; exact hlt
    simp only [if_true,this,if_false,Option.getD_none]
    rw [Array.getElem?_eq_none (Nat.le_of_not_lt this)] at ht
    exact ht.mono hM hm
  ·rw [if_neg (fun hh=>hxt hh.1),Array.getElem?_setIfInBounds_ne hxt]
   exact ht.mono hM hm

section
variable {M:Mem} {m:Loc} {g:Nat→D} {a:Act} {ops:Array Oper}
theorem wantD_sound (h:∀ t,Rep M m (g t) (a.tmps.getD t undef)) {o:Oper} {b:Bool} (hw:wantD ops g o.guard=some b):Region.wanted o (yielded ops a.tmps)=b:=by
 unfold wantD at hw
 unfold Region.wanted
 split at hw
 ·rename_i hg; rw [hg]; simpa using hw
 ·rename_i j want hg
  rw [hg]
  simp only []
  split at hw
  ·rename_i t ht
   have hr:=h t
   rw [Array.getD_eq_getD_getElem?] at hr
   split at hw
   ·rename_i b' hb
    cases hw
    rw [hb] at hr; simp only [Rep] at hr
    have hy:yielded ops a.tmps j=some b':=by
     unfold yielded
     rw [ht]
     cases hx:a.tmps[t]? with
     | none=>rw [hx] at hr; simp [undef] at hr
     | some u=>rw [hx] at hr; simp only [Option.getD_some] at hr; subst hr; simp [hx]
    rw [hy]; cases b' <;> cases want <;> rfl
   ·rename_i hb
    cases hw
    rw [hb] at hr; simp only [Rep] at hr
    obtain ⟨vs,hv,hL⟩:=hr
    have hy:yielded ops a.tmps j=none:=by
     unfold yielded
     rw [ht]
     cases hx:a.tmps[t]? with
     | none=>simp [hx]
     | some u=>rw [hx] at hv; simp only [Option.getD_some] at hv; subst hv; simp [hx]
    rw [hy]; rfl
   ·cases hw
  ·rename_i ht
   cases hw
   have hy:yielded ops a.tmps j=none:=by unfold yielded; rw [ht]; rfl
   rw [hy]; rfl
end

section
variable {C:Cfg} {S:Sm} {E:Env C} {Q:Exit→Act→World→Prop}

structure It where
 o:Oper
 st:St
 res:Option Out
def It.d (i:It):D:=match i.res with | some r=>r.d | none=>.tup []
def It.wr (i:It):List Upd:=match i.res with | some r=>r.wr | none=>[]
def It.rd (i:It):List Nat:=match i.res with | some r=>r.rd | none=>[]
def It.nxt (i:It):Nat:=match i.res with | some r=>r.nxt | none=>i.st.nxt
def It.after (i:It):St:=⟨i.st.n,putT i.st.n i.st.tmps i.o.dst i.d,applyUpd i.wr i.st.objs,i.nxt,i.st.pin⟩
def It.OK (C:Cfg) (S:Sm) (ops:Array Oper) (i:It):Prop :=
 (∃ r,i.res=some r∧wantD ops (get i.st.tmps) i.o.guard=some true∧evOp C S (get i.st.tmps) i.st.objs i.st.nxt i.o=some r) ∨
 (i.res=none∧wantD ops (get i.st.tmps) i.o.guard=some false)
def Chain:St→List It→St→Prop
 | st,[],st'=>st'=st
 | st,i::l,st'=>i.st=st∧Chain i.after l st'
theorem evOpsT_items {ops:Array Oper}:∀ (l:List Oper) (st st':St) (tr:Trace),evOpsT C S ops l st=some (st',tr) →
  ∃ its:List It,its.map (·.o)=l∧Chain st its st'∧tr=its.map (fun i=>(i.rd,i.wr.map (·.1)))∧∀ i∈its,i.OK C S ops
 | [],st,st',tr,h=>by
  simp only [evOpsT,Option.some.injEq,Prod.mk.injEq] at h; obtain ⟨rfl,rfl⟩:=h
  exact ⟨[],rfl,rfl,rfl,fun _ h=>by cases h⟩
 | o::l,st,st',tr,h=>by
  simp only [evOpsT] at h
  split at h
  ·rename_i hw
   split at h
   ·rename_i r hop
    split at h
    ·rename_i st1 tr1 h1
     cases h
     obtain ⟨its,i1,i2,i3,i4⟩:=evOpsT_items l _ _ _ h1
     refine ⟨⟨o,st,some r⟩::its,by simp [i1],⟨rfl,i2⟩,by rw [i3]; rfl,fun i hi=>?_⟩
     rcases List.mem_cons.1 hi with rfl | hi
     ·exact .inl ⟨r,rfl,hw,hop⟩
     ·exact i4 i hi
    ·cases h
   ·cases h
  ·rename_i hw
   split at h
   ·rename_i st1 tr1 h1
    cases h
    obtain ⟨its,i1,i2,i3,i4⟩:=evOpsT_items l _ _ _ h1
    refine ⟨⟨o,st,none⟩::its,by simp [i1],⟨rfl,i2⟩,by rw [i3]; rfl,fun i hi=>?_⟩
    rcases List.mem_cons.1 hi with rfl | hi
    ·exact .inr ⟨rfl,hw⟩
    ·exact i4 i hi
   ·cases h
  ·cases h

def effO:List Upd→Nat→Option (Option Ob)
 | [],_=>none
 | (k,v)::r,x=>match effO r x with
  | some y=>some y
  | none=>if x=k then some v else none
theorem updF_eff:∀ (u:List Upd) (g:Nat→Option Ob) (x:Nat),updF u g x=(effO u x).getD (g x)
 | [],g,x=>rfl
 | (k,v)::r,g,x=>by
  simp only [updF,updF_eff r,effO]
  cases effO r x with
  | some y=>rfl
  | none=>simp only [Option.getD_none]; split <;> simp
theorem effO_mem:∀ (u:List Upd) (x:Nat),effO u x ≠ none→x∈u.map (·.1)
 | [],x,h=>absurd rfl h
 | (k,v)::r,x,h=>by
  simp only [effO] at h
  cases hr:effO r x with
  | some y=>exact List.mem_cons_of_mem _ (effO_mem r x (by rw [hr]; simp))
  | none =>
   rw [hr] at h
   by_cases hx:x=k
   ·simp [hx]
   ·simp [hx] at h

def tS (its:List It) (S:Nat→Bool) (g:Nat→D):Nat→D:=foldS (its.map fun i=>effT i.st.n i.o.dst i.d) 0 S g
def oS (its:List It) (S:Nat→Bool) (g:Nat→Option Ob):Nat→Option Ob:=foldS (its.map fun i=>effO i.wr) 0 S g

theorem chain_foldS {β:Type} (f:St→Nat→β) (e:It→Nat→Option β) (he:∀ i x,f i.after x=(e i x).getD (f i.st x)) :
  ∀ (its:List It) (st st':St),Chain st its st'→∀ (k:Nat) (S:Nat→Bool),
   ((∀ j,j < its.length→S (k+j)=true)→∀ x,foldS (its.map e) k S (f st) x=f st' x) ∧
   (∀ (i:Nat) (it:It),its[i]?=some it→(∀ j,j < its.length→S (k+j)=decide (j < i))→∀ x,foldS (its.map e) k S (f st) x=f it.st x)
 | [],st,st',h,k,S=>⟨fun _ x=>by simp only [Chain] at h; subst h; rfl,fun i it hi=>by simp at hi⟩
 | it0::its,st,st',h,k,S=>by
  obtain ⟨rfl,h⟩:=h
  obtain ⟨c1,c2⟩:=chain_foldS f e he its _ st' h (k+1) S
  refine ⟨fun hS x=>?_,fun i it hi hS x=>?_⟩
  ·simp only [List.map_cons,foldS]
   have h0:S k=true:=by have:=hS 0 (by simp); simpa using this
   rw [← c1 (fun j hj=>by have:=hS (j+1) (by simpa using hj); rwa [show k+1+j=k+(j+1) by omega]) x]
   congr 1; funext y; rw [h0]; simp only [if_true]; exact (he it0 y).symm
  ·simp only [List.map_cons,foldS]
   cases i with
   | zero =>
    simp at hi; subst hi
    have h0:S k=false:=by have:=hS 0 (by simp); simpa using this
    rw [h0]
    simp only [Bool.false_eq_true,if_false]
    have hno:∀ (l:List (Nat→Option β)) (k:Nat) (g:Nat→β),(∀ j,j < l.length→S (k+j)=false)→foldS l k S g x=g x:=by
     intro l
     induction l with
     | nil=>intro k g _; rfl
     | cons e1 l ih =>
      intro k g hl
      simp only [foldS]
      rw [ih (k+1) _ (fun j hj=>by have:=hl (j+1) (by simpa using hj); rwa [show k+1+j=k+(j+1) by omega])]
      have:=hl 0 (by simp)
      simp only [Nat.add_zero] at this
      rw [this]; simp
    exact hno _ _ _ (fun j hj=>by have:=hS (j+1) (by simpa using hj); simpa [show k+1+j=k+(j+1) by omega] using this)
   | succ i =>
    have h0:S k=true:=by have:=hS 0 (by simp); simpa using this
    rw [← c2 i it (by simpa using hi) (fun j hj=>by have:=hS (j+1) (by simpa using hj); rw [show k+1+j=k+(j+1) by omega,this]; simp) x]
    congr 1; funext y; rw [h0]; simp only [if_true]; exact (he it0 y).symm
end
end Go.VS

namespace Go.VS
open Go Go.RowKit

theorem wantD_congr {ops:Array Oper} {g g':Nat→D} {gd:Option (Nat × Bool)} (h:∀ j want t,gd=some (j,want)→(ops[j]?).bind (·.dst)=some t→g t=g' t):wantD ops g gd=wantD ops g' gd:=by
 unfold wantD
 split
 ·rfl
 ·rename_i j want
  split
  ·rename_i t ht; rw [h j want t rfl ht]
  ·rfl

section
variable {C:Cfg} {S:Sm} {E:Env C} {Q:Exit→Act→World→Prop}

theorem It.nxt_le {ops:Array Oper} {i:It} (h:i.OK C S ops):i.st.nxt≤i.nxt:=by
 rcases h with ⟨r,h1,_,h3⟩ | ⟨h1,_⟩
 ·unfold It.nxt; rw [h1]; exact evOp_nxt h3
 ·unfold It.nxt; rw [h1]; exact Nat.le_refl _
theorem chain_nxt {ops:Array Oper}:∀ (its:List It) (st st':St),Chain st its st'→(∀ i∈its,i.OK C S ops) →
  st.nxt≤st'.nxt∧(∀ (i:Nat) (it:It),its[i]?=some it→st.nxt≤it.st.nxt∧it.nxt≤st'.nxt∧it.st.n=st.n∧∀ (j:Nat) (jt:It),its[j]?=some jt→i < j→it.nxt≤jt.st.nxt)∧st'.n=st.n
 | [],st,st',h,_=>by simp only [Chain] at h; subst h; exact ⟨Nat.le_refl _,fun i it hi=>by simp at hi,rfl⟩
 | it0::its,st,st',h,hok=>by
  obtain ⟨rfl,h⟩:=h
  obtain ⟨c1,c2,c3⟩:=chain_nxt its _ st' h (fun i hi=>hok i (List.mem_cons_of_mem _ hi))
  have h0:=It.nxt_le (hok it0 (by simp))
  have ha:it0.after.nxt=it0.nxt:=rfl
  have hn:it0.after.n=it0.st.n:=rfl
  refine ⟨by omega,fun i it hi=>?_,by rw [c3,hn]⟩
  cases i with
  | zero =>
   simp at hi; subst hi
   refine ⟨Nat.le_refl _,by omega,rfl,fun j jt hj hlt=>?_⟩
   obtain ⟨j,rfl⟩:∃ k,j=k+1:=⟨j - 1,by omega⟩
   have:=(c2 j jt (by simpa using hj)).1
   omega
  | succ i =>
   obtain ⟨d1,d2,d3,d4⟩:=c2 i it (by simpa using hi)
   refine ⟨by omega,d2,by rw [d3,hn],fun j jt hj hlt=>?_⟩
   obtain ⟨j,rfl⟩:∃ k,j=k+1:=⟨j - 1,by omega⟩
   exact d4 j jt (by simpa using hj) (by omega)

theorem countF_set {l:Array Bool} {i:Nat} (h:l.getD i true=false):(l.setIfInBounds i true).toList.countP (· == false)+1=l.toList.countP (· == false):=by
 have hlt:i < l.size:=by
  rcases Nat.lt_or_ge i l.size with h1 | h1
  ·exact h1
  ·simp [Array.getD_eq_getD_getElem?,Array.getElem?_eq_none h1] at h
 have hget:l[i]=false:=by simpa [Array.getD_eq_getD_getElem?,Array.getElem?_eq_getElem hlt] using h
 rw [Array.toList_setIfInBounds,List.countP_set (by simpa using hlt)]
 have hpos:0 < l.toList.countP (· == false):=List.countP_pos_iff.2 ⟨false,by rw [Array.mem_toList_iff]; rw [← hget]; simp,rfl⟩
 have hg:l.toList[i]'(by simpa using hlt)=false:=by simpa using hget
 rw [hg]
 simp only [BEq.rfl,if_true,show (true == false)=false from rfl,Bool.false_eq_true,if_false]
 omega

structure Inv (C:Cfg) (E:Env C) (ops:Array Oper) (its:List It) (st st':St) (M0:Mem) (m0:Loc) (p:Nat) (ds:List Deferred) (listed:Array Bool) (a:Act) (w:World):Prop where
 size:listed.size=ops.size
 closed:Closed ops (listed.getD · false)
 ex:∃ M m,(∀ t,Rep M m (tS its (listed.getD · false) (get st.tmps) t) (a.tmps.getD t undef))∧Rel E M m w (oS its (listed.getD · false) (zB st.objs))∧yx C M∧Since M0 m0 p M m ∧
  (∀ i it,its[i]?=some it→listed.getD i false=false→∀ k,it.st.nxt≤k→k < it.nxt→m k=none)∧(∀ k,st'.nxt≤k→m k=none)
 n:st.n=a.tmps.size
 defers:a.defers=ds

theorem getD_ft {l:Array Bool} {i:Nat} (h:l.getD i true=false):l.getD i false=false:=by
 rcases Nat.lt_or_ge i l.size with h1 | h1
 ·simpa [Array.getD_eq_getD_getElem?,Array.getElem?_eq_getElem h1] using h
 ·simp [Array.getD_eq_getD_getElem?,Array.getElem?_eq_none h1] at h
theorem getD_set_self {l:Array Bool} {i:Nat} (h:l.getD i true=false):(l.setIfInBounds i true).getD i false=true:=by
 have hlt:i < l.size:=by
  rcases Nat.lt_or_ge i l.size with h1 | h1
  ·exact h1
  ·simp [Array.getD_eq_getD_getElem?,Array.getElem?_eq_none h1] at h
 simp [Array.getD_eq_getD_getElem?,hlt]

theorem any_sound (hC:CfgOK C) (hS:SmOK C S) {ops:Array Oper} {its:List It} {st st':St} {tr:Trace} {M0:Mem} {m0:Loc} {p:Nat} {ds:List Deferred}
  (h1:its.map (·.o)=ops.toList) (h2:Chain st its st') (h3:tr=its.map fun i=>(i.rd,i.wr.map (·.1))) (h4:∀ i∈its,i.OK C S ops) (hreg:regOK ops=true) (htr:traceOK ops tr=true)
  (hp:p≤st.nxt) (hQ:∀ M m a' w,StRel C E M m st' a' w→Since M0 m0 p M m→p≤st'.nxt→a'.defers=ds→Q .normal a' w) :
  ∀ (fuel:Nat) (listed:Array Bool) (a:Act) (w:World),Inv C E ops its st st' M0 m0 p ds listed a w→listed.toList.countP (· == false)≤fuel→wpAny C.P .any ops Q fuel listed a w:=by
 obtain ⟨hback,hnames⟩:=regOK_spec hreg
 obtain ⟨n1,n2,n3⟩:=chain_nxt (C:=C) (S:=S) its st st' h2 h4
 have hlen:its.length=ops.size:=by have:=congrArg List.length h1; simpa using this
 have hit:∀ {i:Nat} {o:Oper},ops[i]?=some o→∃ it,its[i]?=some it∧it.o=o:=by
  intro i o ho
  have:(its.map (·.o))[i]?=some o:=by rw [h1]; simpa using ho
  rw [List.getElem?_map] at this
  cases hi:its[i]? with
  | none=>rw [hi] at this; simp at this
  | some it=>rw [hi] at this; exact ⟨it,rfl,by simpa using this⟩
 have hio:∀ {i:Nat} {it:It},its[i]?=some it→ops[i]?=some it.o:=by
  intro i it hi
  have:(its.map (·.o))[i]?=some it.o:=by rw [List.getElem?_map,hi]; rfl
  rw [h1] at this; simpa using this
 have htri:∀ {i:Nat} {it:It},its[i]?=some it→tr[i]?=some (it.rd,it.wr.map (·.1)):=by
  intro i it hi; rw [h3,List.getElem?_map,hi]; rfl
 have stepT:∀ (i:It) (x:Nat),get i.after.tmps x=(effT i.st.n i.o.dst i.d x).getD (get i.st.tmps x):=fun i x=>get_putT _ _ _ _ _
 have stepO:∀ (i:It) (x:Nat),zB i.after.objs x=(effO i.wr x).getD (zB i.st.objs x):=fun i x=>by
  rw [← updF_eff,← oget_applyUpd]; rfl
 have done:∀ (listed:Array Bool) (a:Act) (w:World),Inv C E ops its st st' M0 m0 p ds listed a w→(∀ j,j < its.length→listed.getD j false=true)→Q .normal a w:=by
  intro listed a w hI hall
  obtain ⟨M,m,q1,q2,q3,q4,q5,q6⟩:=hI.ex
  have eT:=(chain_foldS (fun st t=>get st.tmps t) (fun i=>effT i.st.n i.o.dst i.d) stepT its st st' h2 0 (listed.getD · false)).1 (by simpa using hall)
  have eO:=(chain_foldS (fun st t=>zB st.objs t) (fun i=>effO i.wr) stepO its st st' h2 0 (listed.getD · false)).1 (by simpa using hall)
  refine hQ M m a w ⟨fun t=>?_,by rw [n3]; exact hI.n,?_,q6,q3⟩ q4 (by omega) hI.defers
  ·have:=q1 t; unfold tS at this; rw [eT t] at this; exact this
  ·have e:oS its (listed.getD · false) (zB st.objs)=zB st'.objs:=funext eO
   rw [← e]; exact q2
 have step:∀ (K:Act→World→Prop) (listed:Array Bool) (a:Act) (w:World),Inv C E ops its st st' M0 m0 p ds listed a w→∀ i∈Region.ready .any ops listed,
   (∀ a w,Inv C E ops its st st' M0 m0 p ds (listed.setIfInBounds i true) a w→K a w)→wpOp C.P ops Q i K a w:=by
  intro K listed a w hI i hi hK
  obtain ⟨hl,o,ho,hedge⟩:=mem_ready.1 hi
  obtain ⟨it,hits,hito⟩:=hit ho
  obtain ⟨M,m,q1,q2,q3,q4,q5,q6⟩:=hI.ex
  obtain ⟨s1,s2,s3,s4⟩:=n2 i it hits
  have hSi:=getD_ft hl
  have hdir:DirectIn ops (listed.getD · false) i:=fun o' ho' e he hb=>by
   rw [ho] at ho'; cases ho'; exact hedge e he hb
  have hord:∀ j,j ≠ i→ordered (befs #[] ops.toList) i j=true→listed.getD j false=decide (j < i):=fun j hne h =>
   ordered_iff (S:=(listed.getD · false)) hI.closed hdir hSi hne h
  have agT:∀ t∈namesOf ops o,tS its (listed.getD · false) (get st.tmps) t=get it.st.tmps t:=by
   intro t ht
   have e:=(chain_foldS (fun st t=>get st.tmps t) (fun i=>effT i.st.n i.o.dst i.d) stepT its st st' h2 0 (fun j=>decide (j < i))).2 i it hits (by simp) t
   rw [← e]
   unfold tS
   refine foldS_congr _ 0 _ _ _ _ rfl (fun j e he hx=>?_)
   rw [List.getElem?_map] at he
   cases hj:its[j]? with
   | none=>rw [hj] at he; simp at he
   | some jt =>
    rw [hj] at he; simp only [Option.map_some,Option.some.injEq] at he; subst he
    simp only [Nat.zero_add]
    by_cases hji:j=i
    ·subst hji; rw [hSi]; simp
    ·cases hd:jt.o.dst with
     | none=>simp [effT,hd] at hx
     | some d =>
      have hdt:d=t:=by
       simp only [effT,hd] at hx
       by_cases h:d=t∧t < jt.st.n
       ·exact h.1
       ·rw [if_neg h] at hx; exact absurd rfl hx
      subst hdt
      exact hord j hji (hnames i j o jt.o d ho (hio hj) hd ht hji)
  have agO:∀ k∈it.rd,oS its (listed.getD · false) (zB st.objs) k=zB it.st.objs k:=by
   intro k hk
   have e:=(chain_foldS (fun st t=>zB st.objs t) (fun i=>effO i.wr) stepO its st st' h2 0 (fun j=>decide (j < i))).2 i it hits (by simp) k
   rw [← e]
   unfold oS
   refine foldS_congr _ 0 _ _ _ _ rfl (fun j e he hx=>?_)
   rw [List.getElem?_map] at he
   cases hj:its[j]? with
   | none=>rw [hj] at he; simp at he
   | some jt =>
    rw [hj] at he; simp only [Option.map_some,Option.some.injEq] at he; subst he
    simp only [Nat.zero_add]
    by_cases hji:j=i
    ·subst hji; rw [hSi]; simp
    ·rcases traceOK_spec htr (htri hj) (htri hits) hji with h | h
     ·exact hord j hji h
     ·exact absurd hk (h k (effO_mem _ _ hx)).1
  have hS':∀ j,j ≠ 0+i→(listed.setIfInBounds i true).getD j false=listed.getD j false:=fun j hj=>getD_set_ne false (by omega)
  have eT:∀ t,tS its ((listed.setIfInBounds i true).getD · false) (get st.tmps) t=(effT it.st.n it.o.dst it.d t).getD (tS its (listed.getD · false) (get st.tmps) t):=by
   intro t
   unfold tS
   refine foldS_step _ i 0 (effT it.st.n it.o.dst it.d) _ _ _ (by rw [List.getElem?_map,hits]; rfl) (by simpa using hSi) (by simpa using getD_set_self hl) hS' (fun hx j e' he' hij hx'=>?_)
   rw [List.getElem?_map] at he'
   cases hj:its[j]? with
   | none=>rw [hj] at he'; simp at he'
   | some jt =>
    rw [hj] at he'; simp only [Option.map_some,Option.some.injEq] at he'; subst he'
    simp only [Nat.zero_add]
    have hd:∀ (z:It),effT z.st.n z.o.dst z.d t ≠ none→z.o.dst=some t:=by
     intro z hz
     cases hd:z.o.dst with
     | none=>simp [effT,hd] at hz
     | some d =>
      simp only [effT,hd] at hz
      by_cases h:d=t∧t < z.st.n
      ·rw [h.1]
      ·rw [if_neg h] at hz; exact absurd rfl hz
    have:=hord j (by omega) (hnames i j o jt.o t ho (hio hj) (hd jt hx') (by unfold namesOf; simp [← hito,hd it hx]) (by omega))
    rw [this]; simp; omega
  have eO:∀ k,oS its ((listed.setIfInBounds i true).getD · false) (zB st.objs) k=(effO it.wr k).getD (oS its (listed.getD · false) (zB st.objs) k):=by
   intro k
   unfold oS
   refine foldS_step _ i 0 (effO it.wr) _ _ _ (by rw [List.getElem?_map,hits]; rfl) (by simpa using hSi) (by simpa using getD_set_self hl) hS' (fun hx j e' he' hij hx'=>?_)
   rw [List.getElem?_map] at he'
   cases hj:its[j]? with
   | none=>rw [hj] at he'; simp at he'
   | some jt =>
    rw [hj] at he'; simp only [Option.map_some,Option.some.injEq] at he'; subst he'
    simp only [Nat.zero_add]
    rcases traceOK_spec htr (htri hj) (htri hits) (by omega) with h | h
    ·rw [hord j (by omega) h]; simp; omega
    ·exact absurd (effO_mem _ _ hx) (h k (effO_mem _ _ hx')).2
  have hclosed':Closed ops ((listed.setIfInBounds i true).getD · false):=by
   intro j oj hoj hSj e he hb
   show (listed.setIfInBounds i true).getD e.on false=true
   have hSj:(listed.setIfInBounds i true).getD j false=true:=hSj
   by_cases hji:j=i
   ·subst hji
    rw [ho] at hoj; cases hoj
    exact getD_set_true (hedge e he hb)
   ·rw [getD_set_ne false (Ne.symm hji)] at hSj
    exact getD_set_true (hI.closed j oj hoj hSj e he hb)
  have fin:∀ (M':Mem) (m':Loc) (w':World) (v:Value),MLe M M'→mLe m m'→(∀ x,x < it.st.nxt ∨ it.nxt≤x→m' x=m x)→Rep M' m' it.d v→Rel E M' m' w' (updF it.wr (oS its (listed.getD · false) (zB st.objs))) →
    K (a.put o.dst v) w':=by
   intro M' m' w' v hM hm hk hv hR
   refine hK _ _ ⟨by simp [hI.size],hclosed',⟨M',m',fun t=>?_,?_,q3.mono hM,⟨q4.1.trans hM,fun x hx=>?_⟩,fun j jt hj hSj k k1 k2=>?_,fun k hk'=>?_⟩,by rw [size_put]; exact hI.n,by rw [defers_put]; exact hI.defers⟩
   ·rw [eT t,hito]
    exact put_rep (by rw [s3]; exact hI.n) hM hm q1 hv t
   ·have e:oS its ((listed.setIfInBounds i true).getD · false) (zB st.objs)=updF it.wr (oS its (listed.getD · false) (zB st.objs)):=by
     funext k; rw [eO k,updF_eff]
    rw [e]; exact hR
   ·rw [hk x (.inl (by omega))]; exact q4.2 x hx
   ·have hji:j ≠ i:=by intro e; subst e; rw [getD_set_self hl] at hSj; cases hSj
    rw [getD_set_ne false (Ne.symm hji)] at hSj
    rw [hk k ?_]
    ·exact q5 j jt hj hSj k k1 k2
    ·rcases Nat.lt_or_gt_of_ne hji with hlt | hgt
     ·have:=(n2 j jt hj).2.2.2 i it hits hlt
      exact .inl (by omega)
     ·have:=s4 j jt hj hgt
      exact .inr (by omega)
   ·rw [hk k (.inr (by omega))]; exact q6 k hk'
  have hwant:∀ b,wantD ops (get it.st.tmps) it.o.guard=some b→Region.wanted o (yielded ops a.tmps)=b:=by
   intro b hb
   refine wantD_sound q1 ?_
   rw [hito] at hb
   rw [← hb]
   refine wantD_congr fun j want t hg ht=>agT t ?_
   unfold namesOf
   simp [hg,ht]
  unfold wpOp
  simp only [ho]
  rcases h4 it (List.mem_of_getElem? hits) with ⟨r,r1,r2,r3⟩ | ⟨r1,r2⟩
  ·rw [hwant true r2]
   simp only [if_true]
   left
   have er:it.d=r.d∧it.wr=r.wr∧it.rd=r.rd∧it.nxt=r.nxt:=by unfold It.d It.wr It.rd It.nxt; rw [r1]; exact ⟨rfl,rfl,rfl,rfl⟩
   obtain ⟨e1,e2,e3,e4⟩:=er
   rw [hito] at r3
   have hev:evOp C S (tS its (listed.getD · false) (get st.tmps)) it.st.objs it.st.nxt o=some r:=by
    rw [← r3]
    refine evOp_congr fun x hx=>?_
    cases x with
    | tmp t=>exact agT t (by unfold namesOf; simp only [List.mem_append,List.mem_filterMap]; exact .inl (.inr ⟨.tmp t,by simpa using hx,rfl⟩))
    | const v=>rfl
    | global g=>rfl
    | func f=>rfl
   refine evOp_sound hC hS hev q3 q1 q2 (fun k hk=>agO k (by rw [e3]; exact hk)) (fun k k1 k2=>q5 i it hits hSi k k1 (by rw [e4]; exact k2)) ?_
   intro M' m' w' v hM hm hk hv hR
   exact fin M' m' w' v hM hm (by rw [e4]; exact hk) (by rw [e1]; exact hv) (by rw [e2]; exact hR)
  ·rw [hwant false r2]
   simp only [Bool.false_eq_true,if_false]
   have er:it.d=.tup []∧it.wr=[]:=by unfold It.d It.wr; rw [r1]; exact ⟨rfl,rfl⟩
   exact fin M m w undef (MLe.refl _) (mLe.refl _) (fun _ _=>rfl) (by rw [er.1]; exact undef_rep M m) (by rw [er.2]; exact q2)
 have hempty:∀ (listed:Array Bool),listed.size=ops.size→Region.ready .any ops listed=[]→∀ j,j < its.length→listed.getD j false=true:=by
  intro listed hsz hr
  have:∀ n j,j≤n→j < its.length→listed.getD j false=true:=by
   intro n
   induction n with
   | zero =>
    intro j hj hlt
    cases hb:listed.getD j false with
    | true=>rfl
    | false =>
     have hjlt:j < ops.size:=by omega
     have:j∈Region.ready .any ops listed:=mem_ready.2 ⟨by simpa [Array.getD_eq_getD_getElem?,Array.getElem?_eq_getElem (show j < listed.size by omega)] using hb,ops[j],by simp [hjlt],fun e he hbd=>by
      have:=hback j ops[j] (by simp [hjlt]) e he hbd; omega⟩
     rw [hr] at this; cases this
   | succ n ih =>
    intro j hj hlt
    cases hb:listed.getD j false with
    | true=>rfl
    | false =>
     have hjlt:j < ops.size:=by omega
     have:j∈Region.ready .any ops listed:=mem_ready.2 ⟨by simpa [Array.getD_eq_getD_getElem?,Array.getElem?_eq_getElem (show j < listed.size by omega)] using hb,ops[j],by simp [hjlt],fun e he hbd=>by
      have:=hback j ops[j] (by simp [hjlt]) e he hbd; exact ih e.on (by omega) (by omega)⟩
     rw [hr] at this; cases this
  exact fun j hj=>this j j (Nat.le_refl _) hj
 intro fuel
 induction fuel with
 | zero =>
  intro listed a w hI hc
  have hall:∀ j,j < its.length→listed.getD j false=true:=by
   intro j hj
   have hjl:j < listed.size:=by rw [hI.size]; omega
   have h0:listed.toList.countP (· == false)=0:=by omega
   have:=List.countP_eq_zero.1 h0 listed[j] (by simp)
   simpa [Array.getD_eq_getD_getElem?,Array.getElem?_eq_getElem hjl] using this
  refine ⟨?_,done listed a w hI hall⟩
  cases hr:Region.ready .any ops listed with
  | nil=>rfl
  | cons i r =>
   obtain ⟨hl,o,ho,_⟩:=mem_ready.1 (show i∈Region.ready .any ops listed by rw [hr]; simp)
   have hlt:=(Array.getElem?_eq_some_iff.1 ho).1
   have:=hall i (by omega)
   rw [getD_ft hl] at this; cases this
 | succ fuel ih =>
  intro listed a w hI hc
  refine ⟨fun hr=>done listed a w hI (hempty listed hI.size hr),fun i hi=>?_⟩
  have hl:=(mem_ready.1 hi).1
  have:=countF_set hl
  exact step _ listed a w hI i hi fun a w hI'=>ih _ a w hI' (by omega)

theorem draw_any (hC:CfgOK C) (hS:SmOK C S) {ops:Array Oper} {st st':St} {tr:Trace} {M0 M:Mem} {m0 m:Loc} {p:Nat} {a:Act} {w:World} (h:evOpsT C S ops ops.toList st=some (st',tr))
  (hreg:regOK ops=true) (htr:traceOK ops tr=true) (hr:StRel C E M m st a w) (hs:Since M0 m0 p M m) (hp:p≤st.nxt)
  (hQ:∀ M m a' w,StRel C E M m st' a' w→Since M0 m0 p M m→p≤st'.nxt→a'.defers=a.defers→Q .normal a' w):wpAny C.P .any ops Q ops.size (Array.replicate ops.size false) a { w with drawn:=w.drawn+1 }:=by
 obtain ⟨its,h1,h2,h3,h4⟩:=evOpsT_items _ _ _ _ h
 have hgd:∀ i,(Array.replicate ops.size false).getD i false=false:=fun i=>by
  simp only [Array.getD_eq_getD_getElem?,Array.getElem?_replicate]; split <;> rfl
 have hgd':((Array.replicate ops.size false).getD · false)=fun _=>false:=funext hgd
 have hno:∀ {β:Type} (l:List (Nat→Option β)) (k:Nat) (g:Nat→β) (x:Nat),foldS l k (fun _=>false) g x=g x:=by
  intro β l
  induction l with
  | nil=>intro k g x; rfl
  | cons e l ih=>intro k g x; simp only [foldS]; rw [ih]; simp
 obtain ⟨n1,n2,n3⟩:=chain_nxt (C:=C) (S:=S) its st st' h2 h4
 refine any_sound hC hS h1 h2 h3 h4 hreg htr hp hQ ops.size _ a _ ⟨by simp,fun j o _ hSj=>(by rw [hgd'] at hSj; cases hSj),⟨M,m,fun t=>?_,?_,hr.glob,hs,fun i it hi _ k k1 _=>?_,fun k hk=>hr.fresh k (by omega)⟩,hr.n,rfl⟩ ?_
 ·rw [hgd']; unfold tS; rw [hno]; exact hr.tm t
 ·rw [hgd']
  have:oS its (fun _=>false) (zB st.objs)=zB st.objs:=funext fun x=>hno _ _ _ _
  rw [this]; exact hr.rel.drew
 ·exact hr.fresh k (Nat.le_trans (n2 i it hi).1 k1)
 ·refine Nat.le_trans List.countP_le_length ?_
  simp
end
end Go.VS

namespace Go.VS
open Go Go.RowKit

mutual
theorem renD_rep {M:Mem} {m m':Loc} {ρ:Nat→Option Nat} (h:∀ o o',ρ o=some o'→∀ p,m o=some p→m' o'=some p):∀ (f:Nat) {d:D} {v:Value},Rep M m d v→Rep M m' (renD ρ f d) v
 | 0,_,_,_=>by simp [renD,Rep]
 | f+1,.unk,_,hr=>by simp [renD,Rep]
 | f+1,.val u,_,hr=>by simp only [renD]; simpa [Rep] using hr
 | f+1,.sl nl els sz cap,_,hr=>by simp only [renD]; simpa only [Rep] using hr
 | f+1,.ptr d,_,hr=>by simp only [renD]; simpa only [Rep] using hr
 | f+1,.lref o i sz sub,_,hr=>by
  simp only [renD]
  split
  ·rename_i o' ho
   simp only [Rep] at hr ⊢
   obtain ⟨b,s,h1,h2⟩:=hr
   exact ⟨b,s,h o o' ho _ h1,h2⟩
  ·simp [Rep]
 | f+1,.lsl o off len sz cap,_,hr=>by
  simp only [renD]
  split
  ·rename_i o' ho
   simp only [Rep] at hr ⊢
   obtain ⟨b,s,c,h1,h2⟩:=hr
   exact ⟨b,s,c,h o o' ho _ h1,h2⟩
  ·simp [Rep]
 | f+1,.agg cs,_,hr=>by
  simp only [renD]
  simp only [Rep] at hr ⊢
  obtain ⟨vs,h1,h2⟩:=hr
  exact ⟨vs,h1,renL_rep h f h2⟩
 | f+1,.tup cs,_,hr=>by
  simp only [renD]
  simp only [Rep] at hr ⊢
  obtain ⟨vs,h1,h2⟩:=hr
  exact ⟨vs,h1,renL_rep h f h2⟩
 | f+1,.fn g a b,_,hr=>by
  simp only [renD]
  simp only [Rep] at hr ⊢
  obtain ⟨xs,ys,h1,h2,h3⟩:=hr
  exact ⟨xs,ys,h1,renL_rep h f h2,renL_rep h f h3⟩
 | f+1,.iface t d,_,hr=>by
  simp only [renD]
  simp only [Rep] at hr ⊢
  obtain ⟨u,h1,h2⟩:=hr
  exact ⟨u,h1,renD_rep h f h2⟩
 | f+1,.yld o,_,hr=>by
  simp only [renD]
  split
  ·rename_i o' ho
   simp only [Rep] at hr ⊢
   obtain ⟨l,s,h1,h2⟩:=hr
   exact ⟨l,s,h o o' ho _ h1,h2⟩
  ·simp [Rep]
theorem renL_rep {M:Mem} {m m':Loc} {ρ:Nat→Option Nat} (h:∀ o o',ρ o=some o'→∀ p,m o=some p→m' o'=some p):∀ (f:Nat) {ds:List D} {vs:List Value},zU M m ds vs→zU M m' (ds.map (renD ρ f)) vs
 | _,[],_,hr=>by simpa only [List.map_nil,zU] using hr
 | f,d::ds,_,hr=>by
  simp only [List.map_cons,zU] at hr ⊢
  obtain ⟨v,r,h1,h2,h3⟩:=hr
  exact ⟨v,r,h1,renD_rep h f h2,renL_rep h f h3⟩
end

theorem placeOf_spec:∀ {live:List Nat} {o k:Nat},placeOf live o=some k→live[k]?=some o
 | [],o,k,h=>by simp [placeOf] at h
 | x::r,o,k,h=>by
  simp only [placeOf] at h
  cases hx:eqb x o with
  | true =>
   rw [hx] at h; simp only [cond_true,Option.some.injEq] at h; subst h
   simp [yz.1 hx]
  | false =>
   rw [hx] at h; simp only [cond_false] at h
   split at h
   ·rename_i k' hk'
    cases h
    simpa using placeOf_spec hk'
   ·cases h
theorem get_renT (ρ:Nat→Option Nat):∀ (l:List (Nat × D)) (t:Nat),get (renT ρ l) t=renD ρ fuelD (get l t)
 | [],t=>rfl
 | (k,d)::r,t=>by
  simp only [renT,get]
  cases eqb k t with
  | true=>rfl
  | false=>exact get_renT ρ r t
theorem get_keepT:∀ (ks:List Nat) (l:List (Nat × D)) (t:Nat),get (keepT ks l) t=get l t ∨ get (keepT ks l) t=.unk
 | [],l,t=>.inr rfl
 | k::ks,l,t=>by
  simp only [keepT,get]
  cases hk:eqb k t with
  | true=>have:=yz.1 hk; subst this; exact .inl rfl
  | false=>exact get_keepT ks l t
theorem oget_append:∀ (l r:List (Nat × Ob)) (x:Nat),zB (l++r) x=match zB l x with | some ob=>some ob | none=>zB r x
 | [],r,x=>rfl
 | (k,ob)::l,r,x=>by
  simp only [List.cons_append,zB]
  cases eqb k x with
  | true=>rfl
  | false=>exact oget_append l r x
theorem oget_pinO (ρ:Nat→Option Nat) (pin:Nat):∀ (l:List (Nat × Ob)) (x:Nat),zB (pinO ρ pin l) x=if x < pin then (zB l x).map (renOb ρ) else none
 | [],x=>by simp [pinO,zB]
 | (k,ob)::r,x=>by
  simp only [pinO]
  cases hk:ltb k pin with
  | true =>
   have:=ltb_iff.1 hk
   simp only [cond_true,zB]
   cases hx:eqb k x with
   | true=>have:=yz.1 hx; subst this; simp_all
   | false=>simp [oget_pinO ρ pin r x]
  | false =>
   have:=ltb_false.1 hk
   simp only [cond_false,zB]
   cases hx:eqb k x with
   | true=>have hkx:=yz.1 hx; subst hkx; rw [oget_pinO ρ pin r k]; simp [this]
   | false=>simp [oget_pinO ρ pin r x]
theorem oget_renO (ρ:Nat→Option Nat) (objs:List (Nat × Ob)):∀ (live:List Nat) (k x:Nat) (ob':Ob),zB (renO ρ objs k live) x=some ob'→∃ j o ob,x=k+j∧live[j]?=some o∧zB objs o=some ob∧ob'=renOb ρ ob
 | [],k,x,ob',h=>by simp [renO,zB] at h
 | o::r,k,x,ob',h=>by
  simp only [renO] at h
  split at h
  ·rename_i ob hob
   simp only [zB] at h
   cases hx:eqb k x with
   | true =>
    rw [hx] at h; simp only [cond_true,Option.some.injEq] at h
    exact ⟨0,o,ob,by have:=yz.1 hx; omega,by simp,hob,h.symm⟩
   | false =>
    rw [hx] at h; simp only [cond_false] at h
    obtain ⟨j,o',ob1,h1,h2,h3,h4⟩:=oget_renO ρ objs r (k+1) x ob' h
    exact ⟨j+1,o',ob1,by omega,by simpa using h2,h3,h4⟩
  ·obtain ⟨j,o',ob1,h1,h2,h3,h4⟩:=oget_renO ρ objs r (k+1) x ob' h
   exact ⟨j+1,o',ob1,by omega,by simpa using h2,h3,h4⟩
theorem fromPin_spec (pin:Nat):∀ (l:List Nat),l.Nodup→(fromPin pin l).Nodup∧(∀ o∈fromPin pin l,pin≤o∧o∈l)
 | [],_=>⟨List.nodup_nil,fun o h=>by cases h⟩
 | x::r,h=>by
  rw [List.nodup_cons] at h
  obtain ⟨h1,h2⟩:=fromPin_spec pin r h.2
  simp only [fromPin]
  cases hx:ltb x pin with
  | true=>exact ⟨h1,fun o ho=>⟨(h2 o ho).1,List.mem_cons_of_mem _ (h2 o ho).2⟩⟩
  | false =>
   have:=ltb_false.1 hx
   refine ⟨List.nodup_cons.2 ⟨fun hm=>h.1 (h2 x hm).2,h1⟩,fun o ho=>?_⟩
   rcases List.mem_cons.1 ho with rfl | ho
   ·exact ⟨by omega,by simp⟩
   ·exact ⟨(h2 o ho).1,List.mem_cons_of_mem _ (h2 o ho).2⟩

section
variable {C:Cfg} {S:Sm} {E:Env C} {M M0:Mem} {m m0:Loc} {a:Act} {w:World} {st st':St}

theorem gc0_sound {ks:List Nat} (h:gc0 ks st=some st') (hr:StRel C E M m st a w) (hs:Since M0 m0 st.pin M m) (hp:st.pin≤st.nxt) (hold:∀ o b,E.old o b→o < st.pin) :
  ∃ m',StRel C E M m' st' a w∧Since M0 m0 st.pin M m'∧st'.pin=st.pin∧st.pin≤st'.nxt:=by
 unfold gc0 at h
 split at h
 ·split at h
  ·rename_i liveA hlive
   cases h
   obtain ⟨_,_,hnd⟩:=liveFrom_closed _ _ _ _ _ hlive (fun o ho=>by cases ho) List.nodup_nil
   obtain ⟨hnd',hpin⟩:=fromPin_spec st.pin liveA hnd
   generalize fromPin st.pin liveA=live at hnd' hpin ⊢
   let m':Loc:=fun x=>if x < st.pin then m x else match live[x - st.pin]? with | some o=>m o | none=>none
   have hlow:∀ x,x < st.pin→m' x=m x:=fun x hx=>by simp only [m',hx,if_true]
   have hhigh:∀ j o,live[j]?=some o→m' (st.pin+j)=m o:=fun j o hj=>by
    simp only [m',show ¬ st.pin+j < st.pin by omega,if_false,Nat.add_sub_cancel_left,hj]
   have hρ:∀ o o',renN st.pin live o=some o'→∀ p,m o=some p→m' o'=some p:=by
    intro o o' ho p hp
    unfold renN at ho
    cases hlt:ltb o st.pin with
    | true=>rw [hlt] at ho; simp only [cond_true,Option.some.injEq] at ho; subst ho; rw [hlow o (ltb_iff.1 hlt)]; exact hp
    | false =>
     rw [hlt] at ho; simp only [cond_false] at ho
     split at ho
     ·rename_i k hk
      cases ho
      rw [hhigh k o (placeOf_spec hk)]; exact hp
     ·cases ho
   have hcome:∀ x ob',zB (pinO (renN st.pin live) st.pin st.objs++renO (renN st.pin live) st.objs st.pin live) x=some ob' →
     ∃ o ob,zB st.objs o=some ob∧ob'=renOb (renN st.pin live) ob∧m' x=m o∧((x < st.pin∧o=x) ∨ ∃ j,x=st.pin+j∧live[j]?=some o∧st.pin≤o):=by
    intro x ob' hx
    rw [oget_append,oget_pinO] at hx
    split at hx
    ·rename_i ob1 h1
     cases hx
     split at h1
     ·rename_i hlt
      cases hg:zB st.objs x with
      | none=>rw [hg] at h1; simp at h1
      | some ob=>rw [hg] at h1; simp at h1; exact ⟨x,ob,hg,h1.symm,hlow x hlt,.inl ⟨hlt,rfl⟩⟩
     ·cases h1
    ·obtain ⟨j,o,ob,h1,h2,h3,h4⟩:=oget_renO _ _ _ _ _ _ hx
     exact ⟨o,ob,h3,h4,by rw [h1]; exact hhigh j o h2,.inr ⟨j,h1,h2,(hpin o (List.mem_of_getElem? h2)).1⟩⟩
   refine ⟨m',⟨fun t=>?_,hr.n,?_,fun k hk=>?_,hr.glob⟩,⟨hs.1,fun x hx=>by rw [hlow x hx]; exact hs.2 x hx⟩,rfl,by simp [gcWith]⟩
   ·simp only [gcWith,get_renT]
    refine renD_rep hρ fuelD ?_
    rcases get_keepT ks st.tmps t with h1 | h1
    ·rw [h1]; exact hr.tm t
    ·rw [h1]; simp [Rep]
   ·have hR:=hr.rel
    simp only [gcWith]
    refine ⟨hR.os,hR.tape,hR.output,hR.size,hR.keep,hR.frlt,hR.mfr,hR.mok,⟨fun x ob' hx=>?_,fun x ob' hx hfz b s hb i=>?_,fun x y ob1 ob2 b s s' hx hy hfz hbx hby=>?_,fun x ob' b s hx hbx hF=>?_⟩⟩
    ·obtain ⟨o,ob,h1,rfl,h3,_⟩:=hcome x ob' hx
     obtain ⟨b,s,c,t,q1,q2,q3,q4⟩:=hR.ro.at_ o ob h1
     refine ⟨b,s,c,t,by rw [h3]; exact q1,q2,q3,⟨by simpa [renOb] using q4.1,fun i d hd=>?_⟩⟩
     simp only [renOb,List.getElem?_map] at hd
     cases he:ob.els[i]? with
     | none=>rw [he] at hd; simp at hd
     | some e =>
      rw [he] at hd; simp only [Option.map_some,Option.some.injEq] at hd; subst hd
      obtain ⟨u,u1,u2,u3⟩:=q4.2 i e he
      exact ⟨u,renD_rep hρ fuelD u1,u2,u3⟩
    ·obtain ⟨o,ob,h1,rfl,h3,_⟩:=hcome x ob' hx
     exact hR.ro.excl o ob h1 hfz b s (by rw [← h3]; exact hb) i
    ·obtain ⟨o,ob,h1,rfl,h3,h4⟩:=hcome x ob1 hx
     obtain ⟨o',ob',k1,rfl,k3,k4⟩:=hcome y ob2 hy
     have:=hR.ro.inj o o' ob ob' b s s' h1 k1 hfz (by rw [← h3]; exact hbx) (by rw [← k3]; exact hby)
     subst this
     rcases h4 with ⟨a1,a2⟩ | ⟨j,a1,a2,a3⟩ <;> rcases k4 with ⟨b1,b2⟩ | ⟨j',b1,b2,b3⟩
     ·omega
     ·omega
     ·omega
     ·have hj:=(List.getElem?_eq_some_iff.1 a2)
      have hj':=(List.getElem?_eq_some_iff.1 b2)
      have:j=j':=(List.getElem_inj hnd').1 (hj.2.trans hj'.2.symm)
      omega
    ·obtain ⟨o,ob,h1,rfl,h3,h4⟩:=hcome x ob' hx
     obtain ⟨f1,f2⟩:=hR.ro.fr o ob b s h1 (by rw [← h3]; exact hbx) hF
     rcases h4 with ⟨a1,a2⟩ | ⟨j,a1,a2,a3⟩
     ·subst a2; exact ⟨f1,f2⟩
     ·have:=hold o b f2; omega
   ·simp only [gcWith] at hk
    simp only [m',show ¬ k < st.pin by omega,if_false]
    rw [List.getElem?_eq_none (by omega)]
  ·cases h
 ·cases h

theorem get_deepT (gO:Nat→Option Ob):∀ (l:List (Nat × D)) (t:Nat),get (deepT gO l) t=deepA gO (get l t)
 | [],t=>rfl
 | (k,d)::r,t=>by
  simp only [deepT,get]
  cases eqb k t with
  | true=>rfl
  | false=>exact get_deepT gO r t
theorem oget_deepO (gO:Nat→Option Ob) (ids:List Nat):∀ (l:List (Nat × Ob)) (x:Nat),zB (deepO gO ids l) x=(zB l x).map fun ob=>⟨ob.els.map (deepEl gO),ob.sz,bif memN x ids then true else ob.froz⟩
 | [],x=>rfl
 | (k,ob)::r,x=>by
  simp only [deepO,zB]
  cases hk:eqb k x with
  | true=>have:=yz.1 hk; subst this; rfl
  | false=>exact oget_deepO gO ids r x
theorem catI_mem {g:D→List Nat}:∀ {ds:List D} {d:D} {k:Nat},d∈ds→k∈g d→k∈catI g ds
 | [],_,_,h,_=>by cases h
 | e::ds,d,k,h,hk=>by
  simp only [catI,List.mem_append]
  rcases List.mem_cons.1 h with rfl | h
  ·exact .inl hk
  ·exact .inr (catI_mem h hk)
theorem get_mem {l:List (Nat × D)} {t:Nat}:get l t=.unk ∨ ∃ k,(k,get l t)∈l:=by
 induction l with
 | nil=>exact .inl rfl
 | cons p r ih =>
  obtain ⟨k,d⟩:=p
  simp only [get]
  cases eqb k t with
  | true=>exact .inr ⟨k,by simp⟩
  | false =>
   rcases ih with h | ⟨k',h⟩
   ·exact .inl h
   ·exact .inr ⟨k',List.mem_cons_of_mem _ h⟩
theorem deepTI_mem {gO:Nat→Option Ob}:∀ {l:List (Nat × D)} {t x:Nat} {d:D},(t,d)∈l→x∈deepAI gO d→x∈deepTI gO l
 | [],_,_,_,h,_=>by cases h
 | (k,e)::r,t,x,d,h,hk=>by
  simp only [deepTI,List.mem_append]
  rcases List.mem_cons.1 h with h | h
  ·cases h; exact .inl hk
  ·exact .inr (deepTI_mem h hk)
theorem oget_mem:∀ {l:List (Nat × Ob)} {x:Nat} {ob:Ob},zB l x=some ob→(x,ob)∈l
 | [],_,_,h=>by simp [zB] at h
 | (k,e)::r,x,ob,h=>by
  simp only [zB] at h
  cases hk:eqb k x with
  | true=>rw [hk] at h; have:=yz.1 hk; subst this; simp at h; subst h; simp
  | false=>rw [hk] at h; exact List.mem_cons_of_mem _ (oget_mem h)
theorem deepOI_mem {gO:Nat→Option Ob}:∀ {l:List (Nat × Ob)} {t x:Nat} {ob:Ob},(t,ob)∈l→x∈catI (deepElI gO) ob.els→x∈deepOI gO l
 | [],_,_,_,h,_=>by cases h
 | (k,e)::r,t,x,d,h,hk=>by
  simp only [deepOI,List.mem_append]
  rcases List.mem_cons.1 h with h | h
  ·cases h; exact .inl hk
  ·exact .inr (deepOI_mem h hk)
section
variable {C:Cfg} {E:Env C} {M:Mem} {m:Loc} {w:World} {g:Nat→Option Ob}
theorem deepD_rep (hR:Rel E M m w g) {ids:List Nat} {d:D} {v:Value} (hi:∀ k∈deepI g d,k∈ids) (hr:Rep M m d v):Rep (withObs M m w ids) m (deepD g d) v:=by
 have hk:=hr.mono (withObs_le (m:=m) (ids:=ids) hR.mok) (mLe.refl m)
 cases d with
 | lref o i sz sub =>
  unfold deepI at hi
  unfold deepD
  simp only [] at hi ⊢
  split
  ·rename_i e r hs
   rw [hs] at hi
   exact (snap_sound hR (fun _ _=>rfl) hs hi hr).mono (MLe.refl _) (by intro k p hp; cases hp)
  ·exact hk
 | _=>exact hk
theorem deepL_rep (hR:Rel E M m w g) {ids:List Nat}:∀ {ds:List D} {vs:List Value},(∀ k∈catI (deepI g) ds,k∈ids)→zU M m ds vs→zU (withObs M m w ids) m (ds.map (deepD g)) vs
 | [],_,_,hr=>by simpa only [List.map_nil,zU] using hr
 | d::ds,_,hi,hr=>by
  simp only [catI,List.mem_append] at hi
  simp only [List.map_cons,zU] at hr ⊢
  obtain ⟨v,r,h1,h2,h3⟩:=hr
  exact ⟨v,r,h1,deepD_rep hR (fun k hk=>hi k (.inl hk)) h2,deepL_rep hR (fun k hk=>hi k (.inr hk)) h3⟩
theorem deepA_rep (hR:Rel E M m w g) {ids:List Nat} {d:D} {v:Value} (hi:∀ k∈deepAI g d,k∈ids) (hr:Rep M m d v):Rep (withObs M m w ids) m (deepA g d) v:=by
 have hk:=hr.mono (withObs_le (m:=m) (ids:=ids) hR.mok) (mLe.refl m)
 cases d with
 | agg cs =>
  simp only [deepAI] at hi
  simp only [deepA]
  simp only [Rep] at hr ⊢
  obtain ⟨vs,h1,h2⟩:=hr
  exact ⟨vs,h1,deepL_rep hR hi h2⟩
 | _=>exact hk
theorem deepSl_rep (hR:Rel E M m w g) {ids:List Nat} {d:D} {v:Value} (hi:∀ k∈deepSlI g d,k∈ids) (hr:Rep M m d v):Rep (withObs M m w ids) m (deepSl g d) v:=by
 unfold deepSlI at hi
 unfold deepSl
 split
 ·rename_i e r hs
  rw [hs] at hi
  exact (snap_sound hR (fun _ _=>rfl) hs hi hr).mono (MLe.refl _) (by intro k p hp; cases hp)
 ·exact hr.mono (withObs_le (m:=m) (ids:=ids) hR.mok) (mLe.refl m)
theorem deepEl_rep (hR:Rel E M m w g) {ids:List Nat} {d:D} {v:Value} (hi:∀ k∈deepElI g d,k∈ids) (hr:Rep M m d v):Rep (withObs M m w ids) m (deepEl g d) v:=by
 cases d with
 | agg cs=>exact deepA_rep (d:=.agg cs) hR hi hr
 | lref o i sz sub=>exact deepD_rep (d:=.lref o i sz sub) hR hi hr
 | lsl o off len sz cap=>exact deepSl_rep (d:=.lsl o off len sz cap) hR hi hr
 | _=>exact hr.mono (withObs_le (m:=m) (ids:=ids) hR.mok) (mLe.refl m)
end
theorem deepen_sound {ids:List Nat} (hids:ids=deepTI (zB st.objs) st.tmps++deepOI (zB st.objs) st.objs) (hr:StRel C E M m st a w) (hsome:∀ k∈ids,∃ ob,zB st.objs k=some ob) :
  StRel C E (withObs M m w ids) m (deepen st) a w:=by
 have hR:=hr.rel
 have hle:=withObs_le (m:=m) (ids:=ids) hR.mok
 refine ⟨fun t=>?_,hr.n,?_,hr.fresh,hr.glob.mono hle⟩
 ·simp only [deepen,get_deepT]
  refine deepA_rep hR (fun k hk=>?_) (hr.tm t)
  rcases get_mem (l:=st.tmps) (t:=t) with h | ⟨k',h⟩
  ·rw [h] at hk; cases hk
  ·rw [hids]; exact List.mem_append_left _ (deepTI_mem h hk)
 ·have hg:∀ x ob,zB (deepen st).objs x=some ob→∃ ob0,zB st.objs x=some ob0∧ob=⟨ob0.els.map (deepEl (zB st.objs)),ob0.sz,bif memN x ids then true else ob0.froz⟩:=by
   intro x ob hx
   simp only [deepen,← hids,oget_deepO] at hx
   cases h:zB st.objs x with
   | none=>rw [h] at hx; cases hx
   | some ob0=>rw [h] at hx; cases hx; exact ⟨ob0,rfl,rfl⟩
  have hmem:∀ x,memN x ids=true↔x∈ids:=by
   have key:∀ (l:List Nat) (x:Nat),memN x l=true↔x∈l:=by
    intro l
    induction l with
    | nil=>intro x; simp [memN]
    | cons y r ih =>
     intro x
     simp only [memN,List.mem_cons]
     cases hyx:eqb y x with
     | true=>have:=yz.1 hyx; simp [this]
     | false=>have:=eqb_false.1 hyx; simp [ih x,Ne.symm this]
   exact key ids
  have hf:∀ (x:Nat) (ob ob0:Ob),ob=(⟨ob0.els.map (deepEl (zB st.objs)),ob0.sz,bif memN x ids then true else ob0.froz⟩:Ob)→ob.froz=false→ob0.froz=false∧x ∉ ids:=by
   rintro x ob ob0 rfl h
   simp only [] at h
   cases hm:memN x ids with
   | true=>rw [hm] at h; cases h
   | false=>rw [hm] at h; exact ⟨h,fun hx=>by rw [(hmem x).2 hx] at hm; cases hm⟩
  refine ⟨hR.os,hR.tape,hR.output,hR.size,hR.keep,hR.frlt,fun b hb ho i=>?_,withObs_ok hR.mok,⟨fun x ob hx=>?_,fun x ob hx hfz b s hb i=>?_,fun x y ob ob' b s s' hx hy hfz hbx hby=>?_,fun x ob b s hx hbx hF=>?_⟩⟩
  ·rw [← hR.mfr b hb ho i]
   refine withObs_out (fun k hk s hs=>?_) i
   obtain ⟨ob,hob⟩:=hsome k hk
   exact ho k (hR.ro.fr k ob b s hob hs hb).2
  ·obtain ⟨ob0,p1,rfl⟩:=hg x ob hx
   obtain ⟨b,s,c,t,q1,q2,q3,q4⟩:=hR.ro.at_ x ob0 p1
   refine ⟨b,s,c,t,q1,q2,q3,by simpa using q4.1,fun i d hd=>?_⟩
   simp only [List.getElem?_map] at hd
   cases he:ob0.els[i]? with
   | none=>rw [he] at hd; cases hd
   | some e =>
    rw [he] at hd; simp only [Option.map_some,Option.some.injEq] at hd; subst hd
    obtain ⟨u,u1,u2,u3⟩:=q4.2 i e he
    refine ⟨u,deepEl_rep hR (fun k hk=>?_) u1,u2,u3⟩
    rw [hids]
    exact List.mem_append_right _ (deepOI_mem (oget_mem p1) (catI_mem (List.mem_of_getElem? he) hk))
  ·obtain ⟨ob0,p1,p2⟩:=hg x ob hx
   obtain ⟨f1,f2⟩:=hf x ob ob0 p2 hfz
   rw [withObs_out (fun k hk s' hs'=>?_) i]
   ·exact hR.ro.excl x ob0 p1 f1 b s hb i
   ·obtain ⟨ob1,hob⟩:=hsome k hk
    have:=hR.ro.inj x k ob0 ob1 b s s' p1 hob f1 hb hs'
    subst this; exact f2 hk
  ·obtain ⟨ob0,p1,p2⟩:=hg x ob hx
   obtain ⟨ob1,r1,_⟩:=hg y ob' hy
   exact hR.ro.inj x y ob0 ob1 b s s' p1 r1 (hf x ob ob0 p2 hfz).1 hbx hby
  ·obtain ⟨ob0,p1,p2⟩:=hg x ob hx
   obtain ⟨f1,f2⟩:=hR.ro.fr x ob0 b s p1 hbx hF
   refine ⟨?_,f2⟩
   cases hfz:ob.froz with
   | true=>rfl
   | false=>rw [(hf x ob ob0 p2 hfz).1] at f1; cases f1
theorem deepI_some {gO:Nat→Option Ob} {d:D} {k:Nat} (h:k∈deepI gO d):∃ ob,gO k=some ob:=by
 unfold deepI at h
 split at h
 ·split at h
  ·rename_i hs; exact snap_rd hs k h
  ·cases h
 ·cases h
theorem catI_some {gO:Nat→Option Ob} {g:D→List Nat} (hg:∀ d k,k∈g d→∃ ob,gO k=some ob):∀ {ds:List D} {k:Nat},k∈catI g ds→∃ ob,gO k=some ob
 | [],_,h=>by cases h
 | d::ds,k,h=>by
  simp only [catI,List.mem_append] at h
  rcases h with h | h
  ·exact hg d k h
  ·exact catI_some hg h
theorem deepAI_some {gO:Nat→Option Ob} {d:D} {k:Nat} (h:k∈deepAI gO d):∃ ob,gO k=some ob:=by
 unfold deepAI at h
 split at h
 ·exact catI_some (gO:=gO) (g:=deepI gO) (fun d k hk=>deepI_some hk) h
 ·cases h
theorem deepSlI_some {gO:Nat→Option Ob} {d:D} {k:Nat} (h:k∈deepSlI gO d):∃ ob,gO k=some ob:=by
 unfold deepSlI at h
 split at h
 ·rename_i hs; exact snap_rd hs k h
 ·cases h
theorem deepElI_some {gO:Nat→Option Ob} {d:D} {k:Nat} (h:k∈deepElI gO d):∃ ob,gO k=some ob:=by
 unfold deepElI at h
 split at h
 ·exact catI_some (gO:=gO) (g:=deepI gO) (fun d k hk=>deepI_some hk) h
 ·exact deepSlI_some h
 ·exact deepI_some h
theorem deepTI_some {gO:Nat→Option Ob}:∀ {l:List (Nat × D)} {k:Nat},k∈deepTI gO l→∃ ob,gO k=some ob
 | [],_,h=>by cases h
 | (t,d)::r,k,h=>by
  simp only [deepTI,List.mem_append] at h
  rcases h with h | h
  ·exact deepAI_some h
  ·exact deepTI_some h
theorem deepOI_some {gO:Nat→Option Ob}:∀ {l:List (Nat × Ob)} {k:Nat},k∈deepOI gO l→∃ ob,gO k=some ob
 | [],_,h=>by cases h
 | (t,d)::r,k,h=>by
  simp only [deepOI,List.mem_append] at h
  rcases h with h | h
  ·exact catI_some (gO:=gO) (g:=deepElI gO) (fun d k hk=>deepElI_some hk) h
  ·exact deepOI_some h
theorem gc_sound {ks:List Nat} (h:gc ks st=some st') (hr:StRel C E M m st a w) (hs:Since M0 m0 st.pin M m) (hp:st.pin≤st.nxt) (hold:∀ o b,E.old o b→o < st.pin) :
  ∃ M' m',StRel C E M' m' st' a w∧Since M0 m0 st.pin M' m'∧st'.pin=st.pin∧st.pin≤st'.nxt:=by
 unfold gc at h
 split at h
 ·obtain ⟨m',q⟩:=gc0_sound h hr hs hp hold
  exact ⟨M,m',q⟩
 ·rename_i k ks
  cases hk:eqb k 1000000 with
  | false =>
   rw [hk] at h
   obtain ⟨m',q⟩:=gc0_sound h hr hs hp hold
   exact ⟨M,m',q⟩
  | true =>
   rw [hk] at h
   simp only [cond_true] at h
   have hr1:StRel C E M m ⟨st.n,keepT ks st.tmps,st.objs,st.nxt,st.pin⟩ a w:=by
    refine ⟨fun t=>?_,hr.n,hr.rel,hr.fresh,hr.glob⟩
    rcases get_keepT ks st.tmps t with h1 | h1
    ·simp only [h1]; exact hr.tm t
    ·simp only [h1]; simp [Rep]
   have hr2:=deepen_sound rfl hr1 (fun k hk=>by
    rcases List.mem_append.1 hk with hk | hk
    ·exact deepTI_some hk
    ·exact deepOI_some hk)
   obtain ⟨m',q1,q2,q3,q4⟩:=gc0_sound h hr2 ⟨hs.1.trans (withObs_le hr1.rel.mok),hs.2⟩ hp hold
   exact ⟨_,m',q1,q2,q3,q4⟩

end
end Go.VS

namespace Go.VS
open Go Go.RowKit

@[reducible] def FW (ρ : Option Nat) : Fence := { fn := fun _ => True, depth := none, alive := false, round := ρ }

section
variable {P:Program} {o:Oper} {a:Act} {w:World} {next:Act→World→Prop} {Q:Exit→Act→World→Prop} {ρ:Option Nat} {k:Nat}
theorem semAt_eq' (hd:ρ=none ∨ ∀ c,o.op ≠ .defer c) (f:Operand→Value):o.semAt ρ f=execOp f o:=by
 rcases hd with rfl | hd
 ·rfl
 ·exact Oper.semAt_eq _ _ _ hd
theorem wp_in (hd:ρ=none ∨ ∀ c,o.op ≠ .defer c) (h:o.wp P a w next Q):o.wpIn (FW ρ) k P a w next Q:=by
 refine ⟨fun _ _=>trivial,?_⟩
 rw [semAt_eq' hd]
 unfold Oper.wp at h
 generalize (execOp a.eval o).run P w=r at h ⊢
 cases r with
 | ok x w' =>
  cases x <;> simp only [Oper.upon] at h <;> simp only [Oper.uponIn]
  case value=>exact h
  case skip=>exact h
  case defer=>exact h
  case enter f args=>exact ⟨fun hh=>by simp at hh,(callsIn_wide (n:=k - 1)).2 h⟩
  case row row args =>
   refine ⟨fun hh=>by simp at hh,fun c cs _=>?_⟩
   obtain ⟨v,w'',r1,s1⟩:=h c cs
   exact ⟨v,w'',r1,stepsIn_wide.2 s1⟩
 | halt x w'=>cases x <;> simp only [Oper.upon] at h <;> simp only [Oper.uponIn] <;> exact h
theorem wpOp_in {ops:Array Oper} {i:Nat} {K K':Act→World→Prop} (hK:∀ a w,K a w→K' a w) (hd:ρ=none ∨ ∀ o∈ops.toList,∀ c,o.op ≠ .defer c) (hQ:¬ LetsOut Q) (h:wpOp P ops Q i K a w):wpOpIn (FW ρ) k P ops Q i K' a w:=by
 unfold wpOp at h
 unfold wpOpIn
 split
 ·rename_i ho
  rw [ho] at h
  exact hK _ _ h
 ·rename_i o ho
  rw [ho] at h
  simp only [] at h
  split
  ·rename_i hw
   rw [if_pos hw] at h
   rcases h with h | ⟨_,h⟩
   ·refine Oper.wpIn_mono hK (wp_in ?_ h)
    rcases hd with hd | hd
    ·exact .inl hd
    ·exact .inr (hd o (by obtain ⟨hlt,he⟩:=Array.getElem?_eq_some_iff.1 ho; rw [← he]; simp))
   ·exact absurd h hQ
  ·rename_i hw
   rw [if_neg hw] at h
   exact ⟨fun _ _=>trivial,hK _ _ h⟩
theorem wpAny_in {ops:Array Oper} {md:Region.Mode} (hd:ρ=none ∨ ∀ o∈ops.toList,∀ c,o.op ≠ .defer c) (hQ:¬ LetsOut Q):∀ (fuel:Nat) (listed:Array Bool) (a:Act) (w:World),wpAny P md ops Q fuel listed a w→wpAnyIn (FW ρ) k P md ops Q fuel listed a w
 | 0,_,_,_,h=>h
 | fuel+1,listed,a,w,h=>⟨h.1,fun i hi=>wpOp_in (fun a w=>wpAny_in hd hQ fuel _ a w) hd hQ (h.2 i hi)⟩

theorem stepR_scope {b:Frame} {todo:List Item} {cs:List Frame} {c:Code}:step P (lone (b.atR a (.code (.scope c)::todo)) cs w)=.next (lone (b.atR a (.code c::.inScope c::todo)) cs w) :=
 step_lone_go (by simp [stepG,stepG.exec,Frame.atR])
theorem stepR_inScope {b:Frame} {todo:List Item} {cs:List Frame} {c:Code}:step P (lone (b.atR a (.inScope c::todo)) cs w)=.next (lone (b.atR a todo) cs w) :=
 step_lone_go (by simp [stepG,stepG.exec,Frame.atR])
theorem wpIn_scope_straight {F:Fence} {c:Code} (h:c.wpIn F k P (Exit.noGoto Q) a w):(Code.scope c).wpIn F k P Q a w:=by
 intro b todo cs hro hb hr
 have h0:(lone (b.atR a (.code (.scope c)::todo)) cs w).fenced P F:=fenced_calm hb hr rfl
 obtain ⟨e,a₁,w₁,hq,harr⟩:=h b (.inScope c::todo) cs hro hb hr
 cases e with
 | normal=>exact ⟨.normal,a₁,w₁,hq,.head h0 stepR_scope (StepsIn.trans harr (.one (fenced_calm hb hr rfl) stepR_inScope))⟩
 | exit id =>
  have hx:exitTo id (.inScope c::todo)=exitTo id todo:=by simp [exitTo]
  exact ⟨.exit id,a₁,w₁,hq,fun k' hk=>.head h0 stepR_scope (harr.1 k' (by rw [hx]; exact hk)),
   fun hr' hk=>let ⟨k₁,h1,h2⟩:=harr.2 hr' (by rw [hx]; exact hk); ⟨k₁,h1,.head h0 stepR_scope h2⟩⟩
 | goto l=>exact hq.elim
 | ret=>exact ⟨_,a₁,w₁,hq,.of_steps (.one h0 stepR_scope) harr⟩
 | panic ch=>exact ⟨_,a₁,w₁,hq,.of_steps (.one h0 stepR_scope) harr⟩
 | outgrown=>exact ⟨_,a₁,w₁,hq,.of_steps (.one h0 stepR_scope) harr⟩
end

def isC:Obj→Bool
 | .cells _ _ _=>true
 | _=>false
def XOK (X:Nat→Obj→Prop) (w:World):Prop:=∀ b o,X b o→w.heap[b]?=some o∧isC o=false
def Marks {C:Cfg} (E:Env C) (ds:List Deferred) (w:World):Prop :=
 (∀ d∈ds,∃ D,d={ target:=.collected D,args:=#[] }∧w.heap[D]?=some (.deferred (some [])))∧ds.Pairwise (· ≠ ·)∧∀ d∈ds,∀ D,d={ target:=.collected D,args:=#[] }→¬ E.Fr D
structure StX (C:Cfg) (E:Env C) (X:Nat→Obj→Prop) (M:Mem) (m:Loc) (st:St) (a:Act) (w:World):Prop where
 st:StRel C E M m st a w
 x:XOK X w
 mark:Marks E a.defers w
 sep:∀ d∈a.defers,∀ D,d={ target:=.collected D,args:=#[] }→∀ o,¬ X D o

def Env.add {C:Cfg} (E:Env C) (B:Nat→Prop) (w:World) (M:Mem) (hT:TabOK C w):Env C:=⟨fun b=>E.Fr b ∨ B b,w,M,E.old,fun k cs hk=>⟨.inl (E.sd k cs hk).1,hT k cs hk⟩⟩
section
variable {C:Cfg} {E:Env C} {X:Nat→Obj→Prop} {M M':Mem} {m m':Loc} {w w':World} {g g':Nat→Option Ob} {B:Nat→Prop}
theorem Rel.add (h:Rel E M m w g) (hB:∀ b,B b→∃ o,w.heap[b]?=some o∧isC o=false):Rel (E.add B w M h.tab) M m w g:=by
 refine ⟨⟨rfl,fun _=>Nat.le_refl _⟩,rfl,rfl,Nat.le_refl _,fun _ _=>rfl,fun b hb=>?_,fun _ _ _ _=>rfl,h.mok,⟨h.ro.at_,h.ro.excl,h.ro.inj,fun o ob b s ho hb hF=>?_⟩⟩
 ·rcases hb with hb | hb
  ·exact Nat.lt_of_lt_of_le (h.frlt b hb) h.size
  ·obtain ⟨o,ho,_⟩:=hB b hb
   exact (Array.getElem?_eq_some_iff.1 ho).1
 ·rcases hF with hF | hF
  ·exact h.ro.fr o ob b s ho hb hF
  ·exfalso
   obtain ⟨o',ho',hc⟩:=hB b hF
   obtain ⟨b1,s1,c,t,q1,q2,_⟩:=h.ro.at_ o ob ho
   rw [hb] at q1; cases q1
   rw [ho'] at q2; cases q2; simp [isC] at hc
theorem Rel.back (h:Rel E M m w g) (k:Rel (E.add B w M h.tab) M' m' w' g'):Rel E M' m' w' g'∧∀ b,B b→w'.heap[b]?=w.heap[b]? :=
 ⟨⟨⟨k.os.1.trans h.os.1,fun q=>Nat.le_trans (h.os.2 q) (k.os.2 q)⟩,k.tape.trans h.tape,k.output.trans h.output,Nat.le_trans h.size k.size,fun b hb=>(k.keep b (.inl hb)).trans (h.keep b hb),h.frlt,
  fun b hb ho i=>(k.mfr b (.inl hb) ho i).trans (h.mfr b hb ho i),k.mok,⟨k.ro.at_,k.ro.excl,k.ro.inj,fun o ob b s ho hb hF=>k.ro.fr o ob b s ho hb (.inl hF)⟩⟩,
  fun b hb=>k.keep b (.inr hb)⟩
def keepB (X:Nat→Obj→Prop) (ds:List Deferred) (b:Nat):Prop:=(∃ o,X b o) ∨ ∃ d∈ds,d={ target:=.collected b,args:=#[] }
theorem keepB_ok (hx:XOK X w) {ds:List Deferred} (hm:Marks E ds w):∀ b,keepB X ds b→∃ o,w.heap[b]?=some o∧isC o=false:=by
 rintro b (⟨o,ho⟩ | ⟨d,hd,rfl⟩)
 ·exact ⟨o,hx b o ho⟩
 ·obtain ⟨D,h1,h2⟩:=hm.1 _ hd
  cases h1
  exact ⟨_,h2,rfl⟩
theorem XOK.keep (hx:XOK X w) {ds:List Deferred} (h:∀ b,keepB X ds b→w'.heap[b]?=w.heap[b]?):XOK X w' :=
 fun b o ho=>⟨(h b (.inl ⟨o,ho⟩)).trans (hx b o ho).1,(hx b o ho).2⟩
theorem Marks.keep {ds:List Deferred} (hm:Marks E ds w) (h:∀ b,keepB X ds b→w'.heap[b]?=w.heap[b]?):Marks E ds w' :=
 ⟨fun d hd=>let ⟨D,h1,h2⟩:=hm.1 d hd; ⟨D,h1,(h D (.inr ⟨d,hd,h1⟩)).trans h2⟩,hm.2⟩
theorem StX.mod {st:St} {a:Act} (h:StX C E X M m st a w):StRel C (E.add (keepB X a.defers) w M h.st.rel.tab) M m st a w :=
 ⟨h.st.tm,h.st.n,h.st.rel.add (keepB_ok h.x h.mark),h.st.fresh,h.st.glob⟩
theorem StX.of {st st':St} {a a':Act} (h:StX C E X M m st a w) (k:StRel C (E.add (keepB X a.defers) w M h.st.rel.tab) M' m' st' a' w') (hd:a'.defers=a.defers):StX C E X M' m' st' a' w':=by
 obtain ⟨h1,h2⟩:=h.st.rel.back k.rel
 exact ⟨⟨k.tm,k.n,h1,k.fresh,k.glob⟩,h.x.keep h2,by rw [hd]; exact h.mark.keep h2,by rw [hd]; exact h.sep⟩

theorem Rel.putObj (h:Rel E M m w g) {l:Nat} {o:Obj} (hl:w.heap[l]?=some o) (hc:isC o=false) (hF:¬ E.Fr l) (o':Obj):Rel E M m (w.putObj l o') g:=by
 refine ⟨h.os,h.tape,h.output,by simpa using h.size,fun b hb=>?_,h.frlt,h.mfr,fun b i v hv=>?_,⟨fun x ob hx=>?_,h.ro.excl,h.ro.inj,h.ro.fr⟩⟩
 ·have hne:b ≠ l:=by rintro rfl; exact hF hb
  rw [World.putObj_heap_other hne]; exact h.keep b hb
 ·have hk:=h.mok b i v hv
  have hne:b ≠ l:=by
   rintro rfl
   rw [World.cell?,hl] at hk
   cases o <;> simp_all [isC]
  rw [World.cell?_of_block (World.putObj_heap_other hne)]; exact hk
 ·obtain ⟨b,s,c,t,q1,q2,q3,q4⟩:=h.ro.at_ x ob hx
  have hne:b ≠ l:=by
   rintro rfl
   rw [hl] at q2; cases q2; simp [isC] at hc
  exact ⟨b,s,c,t,q1,by rw [World.putObj_heap_other hne]; exact q2,q3,q4⟩
theorem Rel.allocX (h:Rel E M m w g) (o:Obj):Rel E M m (w.alloc o) g:=by
 refine ⟨h.os,h.tape,h.output,by simp; exact Nat.le_succ_of_le h.size,fun b hb=>?_,h.frlt,h.mfr,fun b i v hv=>?_,⟨fun x ob hx=>?_,h.ro.excl,h.ro.inj,h.ro.fr⟩⟩
 ·rw [Below.heap_alloc w _ b (Nat.lt_of_lt_of_le (h.frlt b hb) h.size)]; exact h.keep b hb
 ·have:=h.mok b i v hv
  rw [World.cell?_alloc_lt w _ _ (World.block_lt_of_cell? w _ this)]
  exact this
 ·obtain ⟨b,s,c,t,q1,q2,q3,q4⟩:=h.ro.at_ x ob hx
  exact ⟨b,s,c,t,q1,by rw [Below.heap_alloc w _ b (Array.getElem?_eq_some_iff.1 q2).1]; exact q2,q3,q4⟩
theorem Rel.name (h:Rel E M m w g) {k l s:Nat} (hk:m k=none):Rel E M (yt m k l s) w g:=by
 have hle:=newLoc_le (b:=l) (s:=s) hk
 have hg:∀ x ob,g x=some ob→x ≠ k:=by
  rintro x ob hx rfl
  obtain ⟨b,s,c,t,q1,_⟩:=h.ro.at_ x ob hx
  rw [hk] at q1; cases q1
 refine ⟨h.os,h.tape,h.output,h.size,h.keep,h.frlt,h.mfr,h.mok,⟨fun x ob hx=>?_,fun x ob hx hf b s' hb=>?_,fun x y ob ob' b s1 s2 hx hy hf hbx hby=>?_,fun x ob b s' hx hb hF=>?_⟩⟩
 ·obtain ⟨b,s',c,t,q1,q2,q3,q4⟩:=h.ro.at_ x ob hx
  exact ⟨b,s',c,t,hle _ _ q1,q2,q3,q4.mono (MLe.refl _) hle⟩
 ·simp only [yt,hg x ob hx,if_false] at hb
  exact h.ro.excl x ob hx hf b s' hb
 ·simp only [yt,hg x ob hx,if_false] at hbx
  simp only [yt,hg y ob' hy,if_false] at hby
  exact h.ro.inj x y ob ob' b s1 s2 hx hy hf hbx hby
 ·simp only [yt,hg x ob hx,if_false] at hb
  exact h.ro.fr x ob b s' hx hb hF
theorem Marks.putObj {ds:List Deferred} (h:Marks E ds w) {l:Nat} {o:Obj} (hl:w.heap[l]?=some o) (hne:∀ ds,o ≠ .deferred (some ds)) (o':Obj):Marks E ds (w.putObj l o') :=
 ⟨fun d hd=>let ⟨D,h1,h2⟩:=h.1 d hd; ⟨D,h1,by
  have hD:D ≠ l:=by rintro rfl; rw [hl] at h2; cases h2; exact hne _ rfl
  rw [World.putObj_heap_other hD]; exact h2⟩,h.2⟩
theorem Marks.alloc {ds:List Deferred} (h:Marks E ds w) (o:Obj):Marks E ds (w.alloc o) :=
 ⟨fun d hd=>let ⟨D,h1,h2⟩:=h.1 d hd; ⟨D,h1,by rw [Below.heap_alloc w _ D (Array.getElem?_eq_some_iff.1 h2).1]; exact h2⟩,h.2⟩
theorem Marks.nil (w:World):Marks E [] w:=⟨fun d hd=>(by cases hd),List.Pairwise.nil,fun d hd=>(by cases hd)⟩
end
end Go.VS

namespace Go.VS
open Go Go.RowKit

def PostX (C:Cfg) (E:Env C) (X:Nat→Obj→Prop) (M0:Mem) (m0:Loc) (p:Nat) (e:Exit) (st':St):Exit→Act→World→Prop :=
 fun e' a' w'=>e'=e∧∃ M m,StX C E X M m st' a' w'∧Since M0 m0 p M m∧st'.pin=p∧p≤st'.nxt
def LoopOK (C:Cfg) (n:Nat) (c:Code) (st:St) (e:Exit) (st':St):Prop :=
 ∀ (ρ:Option Nat) (k:Nat) (E:Env C) (X:Nat→Obj→Prop) (M0 M:Mem) (m0 m:Loc) (a:Act) (w:World),(ρ=none ∨ noRange c=true)→StX C E X M m st a w→Since M0 m0 st.pin M m→st.pin≤st.nxt →
  (∀ o b,E.old o b→o < st.pin)→Code.roundsIn (FW ρ) k C.P c (PostX C E X M0 m0 st.pin e st') n a w
def recOf (R:Rnd) (fn:FuncId) (tm:Array Value) (D:Nat) (p:Option Code) (busy:Bool):Loop :=
 { state:=if busy then .busy else if p.isNone then .ready else .done,pending:=p,fn,tmps:=tm,params:=R.ps.toArray,assign:=R.assign,body:=R.body,defers:=D }
def Xy (R:Rnd) (fn:FuncId) (tm:Array Value) (D L:Nat) (p:Option Code) (busy:Bool) (X:Nat→Obj→Prop):Nat→Obj→Prop :=
 fun b o=>(b=L∧o=.loop (recOf R fn tm D p busy)) ∨ X b o
structure RndOK (R:Rnd) (tm:Array Value) (M0:Mem) (m0:Loc) (L:Nat):Prop where
 tmr:∀ t,Rep M0 m0 (get R.tmps t) (tm.getD t undef)
 n:R.n=tm.size
 y:∃ s,m0 R.y=some (L,s)
 assign:noRange R.assign=true
 body:noRange R.body=true
def LoopYOK (C:Cfg) (n:Nat) (R:Rnd) (c:Code) (st:St) (e:Exit) (st':St) (p:Option Code):Prop :=
 ∀ (k:Nat) (E:Env C) (X:Nat→Obj→Prop) (M0 M:Mem) (m0 m:Loc) (a:Act) (w:World) (L D:Nat) (fn:FuncId) (tm:Array Value),RndOK R tm M0 m0 L→R.y < st.pin→(∀ k,st.pin≤k→m0 k=none)→¬ E.Fr L→(∀ o,¬ X L o) →
  StX C E (Xy R fn tm D L none false X) M m st a w→Since M0 m0 st.pin M m→st.pin≤st.nxt→(∀ o b,E.old o b→o < st.pin) →
  Code.roundsIn (FW none) k C.P c (PostX C E (Xy R fn tm D L p false X) M0 m0 st.pin e st') n a w
def IterOK (C:Cfg) (R:Rnd) (K:FuncId) (args:List D) (objs:List (Nat × Ob)) (nxt:Nat) (objs':List (Nat × Ob)) (nxt':Nat) (p:Option Code):Prop :=
 ∀ (k:Nat) (E:Env C) (X:Nat→Obj→Prop) (M:Mem) (m:Loc) (w:World) (vs:Array Value) (L D:Nat) (fn:FuncId) (tm:Array Value),RndOK R tm M m L→R.y < nxt →
  Rel E M m w (zB objs)→yx C M→zU M m args vs.toList→(∀ k,nxt≤k→m k=none)→(∀ o b,E.old o b→o < nxt)→¬ E.Fr L→(∀ o,¬ X L o)→XOK (Xy R fn tm D L none false X) w →
  CallsIn (FW none) k C.P K vs w fun e w'=>∃ v M' m',e=.returned v∧MLe M M'∧(∀ x,x < nxt→m' x=m x)∧(∀ x,nxt'≤x→m' x=none)∧nxt≤nxt'∧Rel E M' m' w' (zB objs')∧yx C M'∧XOK (Xy R fn tm D L p false X) w'
structure SmOKL (C:Cfg) (S:Sm):Prop extends SmOK C S where
 loop:∃ n,∀ f c st e st',S.loop f c st=some (e,st')→LoopOK C n c st e st'
 loopY:∃ n,∀ R f c st e st' p,S.loopY R f c st=some (e,st',p)→LoopYOK C n R c st e st' p
 iter:∀ R K args objs nxt objs' nxt' p,S.iter R K args objs nxt=some (objs',nxt',p)→IterOK C R K args objs nxt objs' nxt' p

section
variable {C:Cfg} {S:Sm} {E:Env C} {X:Nat→Obj→Prop} {M M0:Mem} {m m0:Loc} {a:Act} {w:World} {st st':St}
theorem evOps_pin {ops:Array Oper}:∀ (l:List Oper) (st st':St),evOps C S ops l st=some st'→st'.pin=st.pin
 | [],st,st',h=>by simp only [evOps,Option.some.injEq] at h; subst h; rfl
 | o::l,st,st',h=>by
  simp only [evOps] at h
  split at h
  ·split at h
   ·have:=evOps_pin l _ st' h; exact this
   ·cases h
  ·have:=evOps_pin l _ st' h; exact this
  ·cases h
theorem evOpsT_pin {ops:Array Oper}:∀ (l:List Oper) (st st':St) (tr:Trace),evOpsT C S ops l st=some (st',tr)→st'.pin=st.pin
 | [],st,st',tr,h=>by simp only [evOpsT,Option.some.injEq,Prod.mk.injEq] at h; obtain ⟨rfl,rfl⟩:=h; rfl
 | o::l,st,st',tr,h=>by
  simp only [evOpsT] at h
  split at h
  ·split at h
   ·split at h
    ·rename_i h1
     cases h; have:=evOpsT_pin l _ _ _ h1; exact this
    ·cases h
   ·cases h
  ·split at h
   ·rename_i h1
    cases h; have:=evOpsT_pin l _ _ _ h1; exact this
   ·cases h
  ·cases h

theorem roundsIn_le {F:Fence} {k:Nat} {P:Program} {c:Code} {Q:Exit→Act→World→Prop}:∀ {n n':Nat},n≤n'→∀ {a:Act} {w:World},Code.roundsIn F k P c Q n a w→Code.roundsIn F k P c Q n' a w
 | 0,_,_,_,_,h=>h.elim
 | n+1,0,hle,_,_,_=>by omega
 | n+1,n'+1,hle,a,w,h=>by
  rw [roundsIn_succ] at h ⊢
  refine wpIn_mono h fun e a w he=>?_
  cases e with
  | normal=>exact roundsIn_le (Nat.le_of_succ_le_succ hle) he
  | _=>exact he
theorem noDefer_mem:∀ {l:List Oper},noDefer l=true→∀ o∈l,∀ c,o.op ≠ .defer c
 | [],_,o,ho=>by cases ho
 | x::l,h,o,ho=>by
  simp only [noDefer,Bool.and_eq_true] at h
  intro c hc
  rcases List.mem_cons.1 ho with rfl | ho
  ·rw [hc] at h; simp at h
  ·exact noDefer_mem h.2 o ho c hc
theorem StX.skip (hx:StX C E X M m st a w) (dst:Option Tmp):StX C E X M m ⟨st.n,putT st.n st.tmps dst (.tup []),st.objs,st.nxt,st.pin⟩ (a.put dst undef) w:=by
 refine ⟨⟨fun t=>?_,by rw [size_put]; exact hx.st.n,hx.st.rel,hx.st.fresh,hx.st.glob⟩,hx.x,by rw [defers_put]; exact hx.mark,by rw [defers_put]; exact hx.sep⟩
 simp only [get_putT]
 exact put_rep hx.st.n (MLe.refl _) (mLe.refl _) hx.st.tm (undef_rep M m) t
theorem evOp_X (hC:CfgOK C) (hS:SmOK C S) {ρ:Option Nat} {k p:Nat} {o:Oper} {r:Out} {next:Act→World→Prop} {Q:Exit→Act→World→Prop} (hop:evOp C S (get st.tmps) st.objs st.nxt o=some r) (hx:StX C E X M m st a w) (hs:Since M0 m0 p M m)
  (hp:p≤st.nxt) (hd:ρ=none ∨ ∀ c,o.op ≠ .defer c)
  (hK:∀ M' m' a' w',StX C E X M' m' ⟨st.n,putT st.n st.tmps o.dst r.d,applyUpd r.wr st.objs,r.nxt,st.pin⟩ a' w'→Since M0 m0 p M' m'→p≤r.nxt→next a' w'):o.wpIn (FW ρ) k C.P a w next Q:=by
 have hm:=hx.mod
 have hnx:=evOp_nxt hop
 refine wp_in hd (evOp_sound hC hS hop hm.glob hm.tm hm.rel (fun _ _=>rfl) (fun k h1 _=>hm.fresh k h1) ?_)
 intro M' m' w' v hM hm' hk hv hR
 refine hK M' m' _ w' (hx.of ⟨fun t=>?_,by rw [size_put]; exact hm.n,?_,fun k hk'=>?_,hm.glob.mono hM⟩ (defers_put _ _ _)) ⟨hs.1.trans hM,fun x hx'=>?_⟩ (Nat.le_trans hp hnx)
 ·simp only [get_putT]
  exact put_rep hm.n hM hm' hm.tm hv t
 ·simp only [show zB (applyUpd r.wr st.objs)=updF r.wr (zB st.objs) from oget_applyUpd _ _]; exact hR
 ·rw [hk k (.inr hk')]; exact hm.fresh k (Nat.le_trans hnx hk')
 ·rw [hk x (.inl (by omega))]; exact hs.2 x hx'
theorem evOps_soundX (hC:CfgOK C) (hS:SmOK C S) {ρ:Option Nat} {k p:Nat} {ops:Array Oper} {Q:Exit→Act→World→Prop}:∀ (l:List Oper) (st st':St) (M:Mem) (m:Loc) (a:Act) (w:World),evOps C S ops l st=some st'→StX C E X M m st a w →
  Since M0 m0 p M m→p≤st.nxt→(ρ=none ∨ noDefer l=true)→(∀ M m a' w,StX C E X M m st' a' w→Since M0 m0 p M m→p≤st'.nxt→Q .normal a' w)→wpListIn (FW ρ) k C.P ops Q l a w
 | [],st,st',M,m,a,w,h,hx,hs,hp,hd,hQ=>by
  simp only [evOps,Option.some.injEq] at h; subst h
  exact hQ M m a w hx hs hp
 | o::l,st,st',M,m,a,w,h,hx,hs,hp,hd,hQ=>by
  have hd':ρ=none ∨ noDefer l=true:=hd.imp _root_.id fun h=>by simp only [noDefer,Bool.and_eq_true] at h; exact h.2
  simp only [evOps] at h
  simp only [wpListIn]
  split at h
  ·rename_i hw
   rw [wantD_sound hx.st.tm hw]
   split at h
   ·rename_i r hop
    exact evOp_X hC hS hop hx hs hp (hd.imp _root_.id fun h=>noDefer_mem h o (by simp)) fun M' m' a' w' h1 h2 h3=>evOps_soundX hC hS l _ st' M' m' a' w' h h1 h2 h3 hd' hQ
   ·cases h
  ·rename_i hw
   rw [wantD_sound hx.st.tm hw]
   simp only [Bool.false_eq_true,if_false]
   exact ⟨fun _ _=>trivial,evOps_soundX hC hS l _ st' M m _ w h (hx.skip o.dst) hs hp hd' hQ⟩
  ·cases h
theorem gc_X {ks:List Nat} (h:gc ks st=some st') (hx:StX C E X M m st a w) (hs:Since M0 m0 st.pin M m) (hp:st.pin≤st.nxt) (hold:∀ o b,E.old o b→o < st.pin) :
  ∃ M' m',StX C E X M' m' st' a w∧Since M0 m0 st.pin M' m'∧st'.pin=st.pin∧st.pin≤st'.nxt:=by
 obtain ⟨M',m',q1,q2,q3,q4⟩:=gc_sound h hx.st hs hp hold
 exact ⟨M',m',⟨q1,hx.x,hx.mark,hx.sep⟩,q2,q3,q4⟩
theorem no_out {p:Nat} {st':St}:¬ LetsOut (PostX C E X M0 m0 p .normal st'):=by
 rintro ⟨a,w,h,_⟩
 cases h

theorem evCode_soundX (hC:CfgOK C) (hS:SmOKL C S) {f:FuncId} {ρ:Option Nat} {k:Nat}:∀ (c:Code) (st:St) (e:Exit) (st':St) (M:Mem) (m:Loc) (a:Act) (w:World),yo C S f c st=some (e,st')→(ρ=none ∨ noRange c=true) →
  StX C E X M m st a w→Since M0 m0 st.pin M m→st.pin≤st.nxt→(∀ o b,E.old o b→o < st.pin)→c.wpIn (FW ρ) k C.P (PostX C E X M0 m0 st.pin e st') a w:=by
 intro c
 induction c with
 | skip =>
  intro st e st' M m a w h hd hr hs hp ho
  simp only [yo,Option.some.injEq,Prod.mk.injEq] at h; obtain ⟨rfl,rfl⟩:=h
  exact wpIn_skip ⟨rfl,M,m,hr,hs,rfl,hp⟩
 | label l =>
  intro st e st' M m a w h hd hr hs hp ho
  simp only [yo,Option.some.injEq,Prod.mk.injEq] at h; obtain ⟨rfl,rfl⟩:=h
  exact wpIn_label ⟨rfl,M,m,hr,hs,rfl,hp⟩
 | ret =>
  intro st e st' M m a w h hd hr hs hp ho
  simp only [yo,Option.some.injEq,Prod.mk.injEq] at h; obtain ⟨rfl,rfl⟩:=h
  exact wpIn_ret ⟨rfl,M,m,hr,hs,rfl,hp⟩
 | exit id =>
  intro st e st' M m a w h hd hr hs hp ho
  simp only [yo,Option.some.injEq,Prod.mk.injEq] at h; obtain ⟨rfl,rfl⟩:=h
  exact wpIn_exit ⟨rfl,M,m,hr,hs,rfl,hp⟩
 | goto l=>intro st e st' M m a w h; simp only [yo] at h; cases h
 | region id ops draw =>
  intro st e st' M m a w h hd hr hs hp ho
  simp only [yo] at h
  cases draw with
  | true =>
   simp only [if_true] at h
   split at h
   ·rename_i st1 tr h1
    split at h
    ·rename_i hc
     simp only [Bool.and_eq_true] at hc
     cases h
     have hpin:=evOpsT_pin _ _ _ _ h1
     refine wpIn_region_any hC.mixed (wpAny_in (hd.imp _root_.id fun h=>noDefer_mem (by simpa only [noRange] using h)) no_out _ _ _ _ (draw_any hC hS.toSmOK h1 hc.1 hc.2 hr.mod hs hp (fun M m a' w q1 q2 q3 q4=>⟨rfl,M,m,hr.of q1 q4,q2,hpin,q3⟩)))
    ·cases h
   ·cases h
  | false =>
   simp only [Bool.false_eq_true,if_false] at h
   split at h
   ·rename_i st1 h1
    cases h
    have hpin:=evOps_pin _ _ _ h1
    exact wpIn_region_list (evOps_soundX hC hS.toSmOK _ _ _ M m a w h1 hr hs hp (hd.imp _root_.id fun h=>by simpa only [noRange] using h) (fun M m a' w q1 q2 q3=>⟨rfl,M,m,q1,q2,hpin,q3⟩))
   ·cases h
 | seq x y ihx ihy =>
  intro st e st' M m a w h hd hr hs hp ho
  have hd1:ρ=none ∨ noRange x=true:=hd.imp _root_.id fun h=>by simp only [noRange,Bool.and_eq_true] at h; exact h.1
  have hd2:ρ=none ∨ noRange y=true:=hd.imp _root_.id fun h=>by simp only [noRange,Bool.and_eq_true] at h; exact h.2
  simp only [yo] at h
  refine wpIn_seq ?_
  split at h
  ·rename_i st1 h1
   refine wpIn_mono (ihx st .normal st1 M m a w h1 hd1 hr hs hp ho) ?_
   rintro e1 a1 w1 ⟨rfl,M1,m1,q1,q2,q3,q4⟩
   have:=ihy st1 e st' M1 m1 a1 w1 h hd2 q1 (q3 ▸ q2) (q3 ▸ q4) (q3 ▸ ho)
   rw [q3] at this
   exact this
  ·rename_i hn
   refine wpIn_mono (ihx st e st' M m a w h hd1 hr hs hp ho) ?_
   rintro e1 a1 w1 ⟨rfl,hq⟩
   cases e1 with
   | normal=>exact absurd h (hn _)
   | _=>exact ⟨rfl,hq⟩
 | cond c x y ihx ihy =>
  intro st e st' M m a w h hd hr hs hp ho
  have hd1:ρ=none ∨ noRange x=true:=hd.imp _root_.id fun h=>by simp only [noRange,Bool.and_eq_true] at h; exact h.1
  have hd2:ρ=none ∨ noRange y=true:=hd.imp _root_.id fun h=>by simp only [noRange,Bool.and_eq_true] at h; exact h.2
  simp only [yo] at h
  split at h
  ·rename_i t ht
   have hv:=yb hr.st.glob hr.st.tm c
   rw [ht] at hv; simp only [Rep] at hv
   refine wpIn_cond hv ?_
   cases t with
   | true=>simp only [if_true] at h ⊢; exact ihx st e st' M m a w h hd1 hr hs hp ho
   | false=>simp only [Bool.false_eq_true,if_false] at h ⊢; exact ihy st e st' M m a w h hd2 hr hs hp ho
  ·cases h
 | block id x ih =>
  intro st e st' M m a w h hd hr hs hp ho
  have hd1:ρ=none ∨ noRange x=true:=hd.imp _root_.id fun h=>by simpa only [noRange] using h
  simp only [yo] at h
  refine wpIn_block ?_
  split at h
  ·rename_i id' st1 h1
   refine wpIn_mono (ih st _ st1 M m a w h1 hd1 hr hs hp ho) ?_
   rintro e1 a1 w1 ⟨rfl,hq⟩
   simp only [Exit.inBlock]
   split at h
   ·rename_i hid
    cases h
    rw [if_pos hid]; exact ⟨rfl,hq⟩
   ·rename_i hid
    cases h
    rw [if_neg hid]; exact ⟨rfl,hq⟩
  ·rename_i hn
   refine wpIn_mono (ih st e st' M m a w h hd1 hr hs hp ho) ?_
   rintro e1 a1 w1 ⟨rfl,hq⟩
   cases e1 with
   | exit id'=>exact absurd h (hn _ _)
   | _=>exact ⟨rfl,hq⟩
 | loop x ih =>
  intro st e st' M m a w h hd hr hs hp ho
  have hd1:ρ=none ∨ noRange x=true:=hd.imp _root_.id fun h=>by simpa only [noRange] using h
  simp only [yo] at h
  split at h
  ·rename_i st1 h1
   obtain ⟨M',m',q1,q2,q3,q4⟩:=gc_X h1 hr hs hp ho
   obtain ⟨n,hn⟩:=hS.loop
   have hn:=hn _ _ _ _ _ h ρ k E X M0 M' m0 m' a w hd1 q1 (q3 ▸ q2) (q3 ▸ q4) (q3 ▸ ho)
   rw [q3] at hn
   exact wpIn_loop_rounds n hn
  ·cases h
 | scope x ih =>
  intro st e st' M m a w h hd hr hs hp ho
  have hd1:ρ=none ∨ noRange x=true:=hd.imp _root_.id fun h=>by simpa only [noRange] using h
  simp only [yo] at h
  refine wpIn_scope_straight ?_
  split at h
  ·cases h
  ·rename_i hn
   refine wpIn_mono (ih st e st' M m a w h hd1 hr hs hp ho) ?_
   rintro e1 a1 w1 ⟨rfl,hq⟩
   cases e1 with
   | goto l=>exact absurd h (hn _ _)
   | _=>exact ⟨rfl,hq⟩
 | rangeFunc g ps assign body ih1 ih2 =>
  intro st e st' M m a w h hd hr hs hp ho
  have hρ:ρ=none:=hd.resolve_right (by simp [noRange])
  subst hρ
  simp only [yo] at h
  split at h
  case isFalse=>cases h
  rename_i hnr
  simp only [Bool.and_eq_true] at hnr
  split at h
  case h_2=>cases h
  rename_i K first captured hg
  split at h
  case h_2=>cases h
  rename_i fnK hfnK
  split at h
  case h_2=>cases h
  rename_i objs' nxt' p hit
  split at h
  case h_2=>cases h
  rename_i e1 hex
  cases h
  have hfr:=yb hr.st.glob hr.st.tm g
  rw [hg] at hfr; simp only [Rep] at hfr
  obtain ⟨xs,ys,g1,g2,g3⟩:=hfr
  refine wpIn_rangeFunc ?_
  intro fn _
  obtain ⟨R,hR⟩:∃ R:Rnd,(⟨f,st.nxt,st.n,st.tmps,ps.toList,assign,body⟩:Rnd)=R:=⟨_,rfl⟩
  have hrec:({ state:=.ready,pending:=none,fn,tmps:=a.tmps,params:=ps,assign,body,defers:=w.heap.size }:Loop)=recOf R fn a.tmps w.heap.size none false:=by
   rw [← hR]; simp [recOf]
  obtain ⟨W1,hW1⟩:∃ W1,(w.alloc (.deferred (some []))).alloc (.loop (recOf R fn a.tmps w.heap.size none false))=W1:=⟨_,rfl⟩
  have hL1:W1.heap[w.heap.size+1]?=some (.loop (recOf R fn a.tmps w.heap.size none false)):=by
   rw [← hW1]; have:=World.alloc_heap_new (w.alloc (.deferred (some []))) (.loop (recOf R fn a.tmps w.heap.size none false)); rwa [World.size_alloc] at this
  have hD1:W1.heap[w.heap.size]?=some (.deferred (some [])):=by
   rw [← hW1]; exact (Below.heap_alloc _ _ _ (by simp)).trans (World.alloc_heap_new w _)
  have hB1:∀ b,b < w.heap.size→W1.heap[b]?=w.heap[b]?:=fun b hb=>by
   rw [← hW1,Below.heap_alloc _ _ _ (by simp; omega),Below.heap_alloc _ _ _ hb]
  have hmk:m st.nxt=none:=hr.st.fresh _ (Nat.le_refl _)
  have hle:mLe m (yt m st.nxt (w.heap.size+1) 0):=newLoc_le hmk
  have hFr:∀ b,w.heap.size≤b→¬ E.Fr b:=fun b hb hF=>by
   have:=hr.st.rel.frlt b hF; have:=hr.st.rel.size; omega
  have hRel1:Rel E M (yt m st.nxt (w.heap.size+1) 0) W1 (zB st.objs):=by
   rw [← hW1]; exact ((hr.st.rel.allocX _).allocX _).name hmk
  let X1:Nat→Obj→Prop:=fun b o=>(keepB X a.defers b∧w.heap[b]?=some o) ∨ (b=w.heap.size∧o=.deferred (some []))
  have hkeep:=keepB_ok hr.x hr.mark
  have hX1L:∀ o,¬ X1 (w.heap.size+1) o:=by
   rintro o (⟨_,h2⟩ | ⟨h1,_⟩)
   ·have:=(Array.getElem?_eq_some_iff.1 h2).1; omega
   ·omega
  have hX1:XOK X1 W1:=by
   rintro b o (⟨h1,h2⟩ | ⟨rfl,rfl⟩)
   ·obtain ⟨o',h3,h4⟩:=hkeep b h1
    rw [h2] at h3; cases h3
    exact ⟨by rw [hB1 b (Array.getElem?_eq_some_iff.1 h2).1]; exact h2,h4⟩
   ·exact ⟨hD1,rfl⟩
  have hXy:XOK (Xy R fn a.tmps w.heap.size (w.heap.size+1) none false X1) W1:=by
   rintro b o (⟨rfl,rfl⟩ | h)
   ·exact ⟨hL1,rfl⟩
   ·exact hX1 b o h
  have hA:zU M (yt m st.nxt (w.heap.size+1) 0) (first++[.yld st.nxt]++captured) (xs++#[Value.func (.yield (w.heap.size+1)) #[] #[]]++ys).toList:=by
   have hy:zU M (yt m st.nxt (w.heap.size+1) 0) [.yld st.nxt] [Value.func (.yield (w.heap.size+1)) #[] #[]]:=by
    simp only [zU,Rep]
    exact ⟨_,[],rfl,⟨w.heap.size+1,0,by simp [yt],rfl⟩,rfl⟩
   have:=((g2.mono (MLe.refl _) hle).append hy).append (g3.mono (MLe.refl _) hle)
   simpa using this
  have hcall:=hS.iter _ _ _ _ _ _ _ _ hit (k - 1) E X1 M (yt m st.nxt (w.heap.size+1) 0) W1 (xs++#[Value.func (.yield (w.heap.size+1)) #[] #[]]++ys) (w.heap.size+1) w.heap.size fn a.tmps
   ⟨fun t=>(hr.st.tm t).mono (MLe.refl _) hle,hr.st.n,⟨0,by simp [yt]⟩,hnr.1,hnr.2⟩ (Nat.lt_succ_self _) hRel1 hr.st.glob hA
   (fun k hk=>by simp only [yt,show ¬ k=st.nxt by omega,if_false]; exact hr.st.fresh k (by omega)) (fun o b h=>by have:=ho o b h; omega) (hFr _ (by omega)) hX1L (by rw [hR]; exact hXy)
  rw [hR] at hcall
  refine ⟨w.heap.size+1,[{ target:=.collected w.heap.size,args:=#[] }],W1,{ target:=.fn (.func K) ys,args:=xs++#[Value.func (.yield (w.heap.size+1)) #[] #[]] },W1,K,
   xs++#[Value.func (.yield (w.heap.size+1)) #[] #[]]++ys,W1,?_,?_,fun _ _=>trivial,?_,fun h=>by simp at h,?_⟩
  ·rw [run_enterLoop_outer,hrec,hW1]
  ·simp only [resolve,rangeCall,g1,Deferred.ofValue]
   simp [Act.eval]
  ·simp [invoke,run_callFunc hC hfnK]
  ·refine CallsIn.mono hcall ?_
   rintro e' w' ⟨v,M',m',rfl,k1,k2,k3,k4,k5,k6,k7⟩
   have hl':=(k7 _ _ (.inl ⟨rfl,rfl⟩)).1
   refine ⟨p,_,run_endLoop hl' (by simp [recOf]; split <;> simp),?_⟩
   have hle':mLe m m':=fun o x hx=>by
    have hlt:o < st.nxt:=Nat.lt_of_not_le fun hh=>by rw [hr.st.fresh o hh] at hx; cases hx
    rw [k2 o (by omega)]; exact hle o x hx
   have hbk:∀ b o,X1 b o→∀ o',(w'.putObj (w.heap.size+1) o').heap[b]?=some o:=fun b o hb o'=>by
    have hne:b ≠ w.heap.size+1:=by rintro rfl; exact hX1L o hb
    rw [World.putObj_heap_other hne]
    exact (k7 b o (.inr hb)).1
   have hfin:∀ o',PostX C E X M0 m0 st.pin e { n:=st.n,tmps:=st.tmps,objs:=objs',nxt:=nxt',pin:=st.pin } e { tmps:=a.tmps,defers:=[{ target:=.collected w.heap.size,args:=#[] }]++a.defers } (w'.putObj (w.heap.size+1) o'):=by
    intro o'
    refine ⟨rfl,M',m',⟨⟨fun t=>(hr.st.tm t).mono k1 hle',hr.st.n,k5.putObj hl' rfl (hFr _ (by omega)) _,fun x hx=>k3 x hx,k6⟩,?_,?_,fun d hd D hD o hX=>?_⟩,⟨hs.1.trans k1,fun x hx=>?_⟩,rfl,by simp only []; omega⟩
    ·intro b o hb
     have:=hr.x b o hb
     exact ⟨hbk b o (.inl ⟨.inl ⟨o,hb⟩,this.1⟩) _,this.2⟩
    ·refine ⟨fun d hd=>?_,?_⟩
     ·rcases List.mem_append.1 hd with hd | hd
      ·simp only [List.mem_singleton] at hd
       subst hd
       exact ⟨_,rfl,hbk _ _ (.inr ⟨rfl,rfl⟩) _⟩
      ·obtain ⟨D,h1,h2⟩:=hr.mark.1 d hd
       exact ⟨D,h1,hbk D _ (.inl ⟨.inr ⟨d,hd,h1⟩,h2⟩) _⟩
     ·refine ⟨List.pairwise_append.2 ⟨by simp,hr.mark.2.1,fun d hd d' hd'=>?_⟩,fun d hd D hD=>?_⟩
      ·simp only [List.mem_singleton] at hd
       subst hd
       obtain ⟨D,h1,h2⟩:=hr.mark.1 d' hd'
       rintro rfl
       cases h1
       have:=(Array.getElem?_eq_some_iff.1 h2).1
       omega
      ·rcases List.mem_append.1 hd with hd | hd
       ·simp only [List.mem_singleton] at hd
        subst hd
        cases hD
        exact hFr _ (Nat.le_refl _)
       ·exact hr.mark.2.2 d hd D hD
    ·rcases List.mem_append.1 hd with hd | hd
     ·simp only [List.mem_singleton] at hd
      subst hd
      cases hD
      have:=(Array.getElem?_eq_some_iff.1 (hr.x _ _ hX).1).1
      omega
     ·exact hr.sep d hd D hD o hX
    ·have:=hs.2 x hx
     rw [k2 x (by omega)]
     simp only [yt,show ¬ x=st.nxt by omega,if_false]
     exact this
   cases p with
   | none=>simp only [exitOf,Option.some.injEq] at hex; subst hex; exact hfin _
   | some c =>
    cases c with
    | ret=>simp only [exitOf,Option.some.injEq] at hex; subst hex; exact wpIn_ret (hfin _)
    | exit id=>simp only [exitOf,Option.some.injEq] at hex; subst hex; exact wpIn_exit (hfin _)
    | _=>simp only [exitOf] at hex; cases hex
 | _=>intro st e st' M m a w h; simp only [yo] at h; cases h
end
end Go.VS

namespace Go.VS
open Go Go.RowKit

def jumpOf:Exit→Option (Option Code)
 | .normal=>some none
 | .ret=>some (some .ret)
 | .exit id=>some (some (.exit id))
 | _=>none

theorem putPs_rep {M:Mem} {m:Loc} {n:Nat}:∀ (ps:List Tmp) (ds:List D) (l:List (Nat × D)) (vs:List Value) (tm:Array Value),n=tm.size→zU M m ds vs→ps.length=ds.length→(∀ t,Rep M m (get l t) (tm.getD t undef)) →
  (∀ t,Rep M m (get (putPs n ps ds l) t) (((ps.zip vs).foldl (fun t (x:Tmp × Value)=>t.setIfInBounds x.1 x.2) tm).getD t undef))∧n=((ps.zip vs).foldl (fun t (x:Tmp × Value)=>t.setIfInBounds x.1 x.2) tm).size
 | [],ds,l,vs,tm,hn,hA,hl,h=>by
  simp only [putPs,List.zip_nil_left,List.foldl_nil]; exact ⟨h,hn⟩
 | p::ps,[],l,vs,tm,hn,hA,hl,h=>by simp at hl
 | p::ps,d::ds,l,vs,tm,hn,hA,hl,h=>by
  simp only [zU] at hA
  obtain ⟨v,r,rfl,h1,h2⟩:=hA
  simp only [putPs,List.zip_cons_cons,List.foldl_cons]
  refine putPs_rep ps ds _ r _ (by simpa using hn) h2 (by simpa using hl) fun t=>?_
  rw [get_putT]
  exact put_rep (a:=⟨tm,[]⟩) (dst:=some p) hn (MLe.refl M) (mLe.refl m) h h1 t

section
variable {C:Cfg} {S:Sm} {E:Env C} {X:Nat→Obj→Prop} {M M0:Mem} {m m0:Loc} {a:Act} {w:World} {st st':St} {R:Rnd} {fn:FuncId} {tm:Array Value} {D L:Nat}

theorem XOK.putL {p p':Option Code} {b b':Bool} (hx:XOK (Xy R fn tm D L p b X) w) (hXL:∀ o,¬ X L o):XOK (Xy R fn tm D L p' b' X) (w.putObj L (.loop (recOf R fn tm D p' b'))):=by
 have hl:=(hx _ _ (.inl ⟨rfl,rfl⟩)).1
 rintro c o (⟨rfl,rfl⟩ | h)
 ·exact ⟨World.putObj_heap_same (Array.getElem?_eq_some_iff.1 hl).1,rfl⟩
 ·have:=hx c o (.inr h)
  have hne:c ≠ L:=by rintro rfl; exact hXL o h
  exact ⟨by rw [World.putObj_heap_other hne]; exact this.1,this.2⟩
theorem sep_xy {p p':Option Code} {b b':Bool} {c:Nat} (h:∀ o,¬ Xy R fn tm D L p b X c o):∀ o,¬ Xy R fn tm D L p' b' X c o:=by
 rintro o (⟨rfl,rfl⟩ | hx)
 ·exact h _ (.inl ⟨rfl,rfl⟩)
 ·exact h o (.inr hx)
theorem StX.putL {p p':Option Code} {b b':Bool} (hx:StX C E (Xy R fn tm D L p b X) M m st a w) (hF:¬ E.Fr L) (hXL:∀ o,¬ X L o) :
  StX C E (Xy R fn tm D L p' b' X) M m st a (w.putObj L (.loop (recOf R fn tm D p' b'))):=by
 have hl:=(hx.x _ _ (.inl ⟨rfl,rfl⟩)).1
 exact ⟨⟨hx.st.tm,hx.st.n,hx.st.rel.putObj hl rfl hF _,hx.st.fresh,hx.st.glob⟩,hx.x.putL hXL,hx.mark.putObj hl (fun ds e=>by cases e) _,fun d hd c hc=>sep_xy (hx.sep d hd c hc)⟩

theorem round_sound (hC:CfgOK C) (hS:SmOKL C S) {k:Nat} {args:List VS.D} {objs:List (Nat × Ob)} {nxt:Nat} {e:Exit} {s:St} {jump:Option Code} (h:evRound C S R args objs nxt=some (e,s)) (he:jumpOf e=some jump)
  (hR:RndOK R tm M m L) (hF:¬ E.Fr L) (hXL:∀ o,¬ X L o) (hrel:Rel E M m w (zB objs)) (hG:yx C M) (hfr:∀ k,nxt≤k→m k=none) (ho:∀ o b,E.old o b→o < nxt) (hX:XOK (Xy R fn tm D L none false X) w)
  {vs:Array Value} (hA:zU M m args vs.toList) {Q:Ending→World→Prop}
  (hQ:∀ M' m' w',MLe M M'→(∀ x,x < nxt→m' x=m x)→(∀ x,s.nxt≤x→m' x=none)→nxt≤s.nxt→Rel E M' m' w' (zB s.objs)→yx C M'→XOK (Xy R fn tm D L jump false X) w'→Q (.returned (.bool jump.isNone)) w') :
  vs.size=R.ps.toArray.size∧RoundIn (FW none) k C.P L fn ((R.ps.toArray.zip vs).foldl (fun tmps (t,a)=>tmps.setIfInBounds t a) tm) R.assign R.body w Q:=by
 unfold evRound at h
 cases hlen:eqb R.ps.length args.length with
 | false=>rw [hlen] at h; simp at h
 | true =>
  rw [hlen] at h
  have hlen:=yz.1 hlen
  simp only [if_true] at h
  split at h
  case h_2=>cases h
  rename_i st1 h1
  have hvl:=hA.length
  simp only [Array.length_toList] at hvl
  refine ⟨by simp; omega,roundIn_of_wpIn trivial ?_⟩
  obtain ⟨tm',htm'⟩:∃ tm',(R.ps.toArray.zip vs).foldl (fun tmps (t,a)=>tmps.setIfInBounds t a) tm=tm':=⟨_,rfl⟩
  have htl:tm'=(R.ps.zip vs.toList).foldl (fun t (x:Tmp × Value)=>t.setIfInBounds x.1 x.2) tm:=by
   rw [← htm',← Array.foldl_toList,Array.toList_zip]
  obtain ⟨q1,q2⟩:=putPs_rep R.ps args R.tmps vs.toList tm hR.n hA hlen hR.tmr
  rw [← htl] at q1 q2
  rw [htm']
  have hx0:StX C E (Xy R fn tm D L none false X) M m ⟨R.n,putPs R.n R.ps args R.tmps,objs,nxt,nxt⟩ { tmps:=tm',defers:=[] } w :=
   ⟨⟨q1,q2,hrel,hfr,hG⟩,hX,Marks.nil w,fun d hd=>(by cases hd)⟩
  have hassign:=evCode_soundX (k:=k) (ρ:=some L) hC hS _ _ _ _ M m _ w h1 (.inr hR.assign) hx0 (Since.refl M m nxt) (Nat.le_refl _) ho
  refine wpIn_mono hassign ?_
  rintro e1 a1 w1 ⟨rfl,M1,m1,x1,s1,p1,n1⟩
  have hl1:=(x1.x _ _ (.inl ⟨rfl,rfl⟩)).1
  refine ⟨_,run_beginRound hl1 rfl,?_⟩
  have x2:StX C E (Xy R fn tm D L none true X) M1 m1 st1 a1 (w1.putObj L (.loop (recOf R fn tm D none true))):=x1.putL hF hXL
  have hrec:({ recOf R fn tm D none false with state:=.busy }:Loop)=recOf R fn tm D none true:=rfl
  rw [hrec]
  simp only [] at p1 s1 n1
  have hbody:=evCode_soundX (k:=k) (ρ:=some L) hC hS _ _ _ _ M1 m1 a1 _ h (.inr hR.body) x2 (M0:=M) (m0:=m) (by rw [p1]; exact s1) (by rw [p1]; exact n1) (by rw [p1]; exact ho)
  refine wpIn_mono hbody ?_
  rintro e2 a2 w2 ⟨rfl,M2,m2,x3,s3,p3,n3⟩
  rw [p1] at s3 p3 n3
  have hl3:=(x3.x _ _ (.inl ⟨rfl,rfl⟩)).1
  have fin:∀ jump',(Instr.endRound L jump').run C.P w2=.ok (.bool jump'.isNone) (w2.putObj L (.loop (recOf R fn tm D jump' false))) ∧
    XOK (Xy R fn tm D L jump' false X) (w2.putObj L (.loop (recOf R fn tm D jump' false))):=fun jump'=>⟨by
   rw [run_endRound jump' hl3]
   rfl,x3.x.putL hXL⟩
  have fin2:Q (.returned (.bool jump.isNone)) (w2.putObj L (.loop (recOf R fn tm D jump false))) :=
   hQ M2 m2 _ s3.1 s3.2 x3.st.fresh n3 (x3.st.rel.putObj hl3 rfl hF _) x3.st.glob (fin jump).2
  cases e2 with
  | normal=>cases he; exact ⟨_,_,(fin none).1,fin2⟩
  | ret=>cases he; exact ⟨_,_,(fin (some .ret)).1,fin2⟩
  | exit id=>cases he; exact ⟨_,_,(fin (some (.exit id))).1,fin2⟩
  | goto t=>cases he
  | panic c=>cases he
  | outgrown=>cases he

theorem evOpsY_pin {ops:Array Oper}:∀ (l:List Oper) (st st':St) (p:Option Code),evOpsY C S R ops l st=some (st',p)→st'.pin=st.pin
 | [],st,st',p,h=>by simp only [evOpsY,Option.some.injEq,Prod.mk.injEq] at h; obtain ⟨rfl,rfl⟩:=h; rfl
 | o::l,st,st',p,h=>by
  simp only [evOpsY] at h
  split at h
  ·split at h
   ·split at h
    ·have:=evOpsY_pin l _ st' p h; exact this
    ·split at h
     ·rename_i h1; cases h; have:=evOps_pin _ _ _ h1; exact this
     ·cases h
    ·split at h
     ·rename_i h1; cases h; have:=evOps_pin _ _ _ h1; exact this
     ·cases h
    ·cases h
   ·split at h
    ·have:=evOpsY_pin l _ st' p h; exact this
    ·cases h
  ·have:=evOpsY_pin l _ st' p h; exact this
  ·cases h
theorem yldOf_spec {gT:Nat→VS.D} {y:Nat} {o:Oper} {l:List Operand} (h:yldOf C gT y o=some l):∃ c f,o.op=.call c∧c.callee=.value f∧zQ C gT f=.yld y∧l=c.args.toList:=by
 unfold yldOf at h
 split at h
 ·rename_i c hc
  split at h
  ·rename_i f hf
   split at h
   ·rename_i k hk
    cases hy:eqb k y with
    | false=>rw [hy] at h; cases h
    | true =>
     rw [hy] at h
     have:=yz.1 hy; subst this
     simp only [cond_true,Option.some.injEq] at h
     exact ⟨c,f,hc,hf,hk,h.symm⟩
   ·cases h
  ·cases h
 ·cases h

theorem evOpsY_sound (hC:CfgOK C) (hS:SmOKL C S) {k p0:Nat} {ops:Array Oper} {Q:Exit→Act→World→Prop} (hR:RndOK R tm M0 m0 L) (hF:¬ E.Fr L) (hXL:∀ o,¬ X L o) (hy:R.y < p0) (hm0:∀ k,p0≤k→m0 k=none) (ho:∀ o b,E.old o b→o < p0) :
  ∀ (l:List Oper) (st st':St) (p:Option Code) (M:Mem) (m:Loc) (a:Act) (w:World),evOpsY C S R ops l st=some (st',p)→StX C E (Xy R fn tm D L none false X) M m st a w →
  Since M0 m0 p0 M m→p0≤st.nxt→(∀ M m a' w,StX C E (Xy R fn tm D L p false X) M m st' a' w→Since M0 m0 p0 M m→p0≤st'.nxt→Q .normal a' w)→wpListIn (FW none) k C.P ops Q l a w
 | [],st,st',p,M,m,a,w,h,hx,hs,hp,hQ=>by
  simp only [evOpsY,Option.some.injEq,Prod.mk.injEq] at h; obtain ⟨rfl,rfl⟩:=h
  exact hQ M m a w hx hs hp
 | o::l,st,st',p,M,m,a,w,h,hx,hs,hp,hQ=>by
  simp only [evOpsY] at h
  simp only [wpListIn]
  split at h
  ·rename_i hw
   rw [wantD_sound hx.st.tm hw]
   simp only [if_true]
   split at h
   ·rename_i args hyl
    obtain ⟨c,f,o1,o2,o3,rfl⟩:=yldOf_spec hyl
    have hfv:=yb hx.st.glob hx.st.tm f
    rw [o3] at hfv; simp only [Rep] at hfv
    obtain ⟨L',s',f1,f2⟩:=hfv
    have hL:L'=L:=by
     obtain ⟨s0,hs0⟩:=hR.y
     rw [hs.2 _ hy,hs0] at f1; cases f1; rfl
    rw [hL] at f2
    have hle0:mLe m0 m:=fun x q hq=>by
     have hlt:x < p0:=Nat.lt_of_not_le fun hh=>by rw [hm0 x hh] at hq; cases hq
     rw [hs.2 x hlt]; exact hq
    have hR':RndOK R tm M m L:=⟨fun t=>(hR.tmr t).mono hs.1 hle0,hR.n,by obtain ⟨s0,hs0⟩:=hR.y; exact ⟨s0,hle0 _ _ hs0⟩,hR.assign,hR.body⟩
    have hA:=evArgs_rep (m:=m) hx.st.glob hx.st.tm c.args.toList
    have hA':zU M m (c.args.toList.map (zQ C (get st.tmps))) (c.args.map a.eval).toList:=by simpa using hA
    let X1:Nat→Obj→Prop:=fun b o=>keepB X a.defers b∧w.heap[b]?=some o
    have hlw:=(hx.x _ _ (.inl ⟨rfl,rfl⟩)).1
    have hkeep:=keepB_ok hx.x hx.mark
    have hX1L:∀ o,¬ X1 L o:=by
     rintro o ⟨⟨o',h1⟩ | ⟨d,hd,rfl⟩,h2⟩
     ·exact hXL _ h1
     ·obtain ⟨D',h3,h4⟩:=hx.mark.1 _ hd
      cases h3
      rw [hlw] at h4; cases h4
    have hX1:XOK (Xy R fn tm D L none false X1) w:=by
     rintro b o (⟨rfl,rfl⟩ | ⟨h1,h2⟩)
     ·exact ⟨hlw,rfl⟩
     ·refine ⟨h2,?_⟩
      rcases h1 with ⟨o',h1⟩ | ⟨d,hd,rfl⟩
      ·obtain ⟨h3,h4⟩:=hx.x b o' (.inr h1)
       rw [h2] at h3; cases h3; exact h4
      ·obtain ⟨D',h3,h4⟩:=hx.mark.1 _ hd
       cases h3; rw [h2] at h4; cases h4; rfl
    have hback:∀ {w':World} {p:Option Code},XOK (Xy R fn tm D L p false X1) w'→XOK (Xy R fn tm D L p false X) w'∧Marks E a.defers w':=fun {w' p} hx'=>⟨by
     rintro b o (⟨rfl,rfl⟩ | h1)
     ·exact hx' _ _ (.inl ⟨rfl,rfl⟩)
     ·exact hx' b o (.inr ⟨.inl ⟨o,h1⟩,(hx.x b o (.inr h1)).1⟩),⟨fun d hd=>let ⟨D',h3,h4⟩:=hx.mark.1 d hd; ⟨D',h3,(hx' D' _ (.inr ⟨.inr ⟨d,hd,h3⟩,h4⟩)).1⟩,hx.mark.2⟩⟩
    have main:∀ (e:Exit) (s:St) (jump:Option Code),evRound C S R (c.args.toList.map (zQ C (get st.tmps))) st.objs st.nxt=some (e,s)→jumpOf e=some jump →
      (∀ M' m' a' w',StX C E (Xy R fn tm D L jump false X) M' m' ⟨st.n,putT st.n st.tmps o.dst (B jump.isNone),s.objs,s.nxt,st.pin⟩ a' w'→Since M0 m0 p0 M' m'→p0≤s.nxt→wpListIn (FW none) k C.P ops Q l a' w') →
      o.wpIn (FW none) k C.P a w (wpListIn (FW none) k C.P ops Q l) Q:=by
     intro e s jump hr hj hnext
     obtain ⟨hsz,hround⟩:=round_sound (k:=k - 1) (fn:=fn) (D:=D) (Q:=fun
       | .returned v,w''=>wpListIn (FW none) k C.P ops Q l (a.put o.dst v) w''
       | .panicked chain,w''=>Q (.panic chain) a w''
       | .outgrown,_=>LetsOut Q) hC hS hr hj hR' hF hX1L hx.st.rel hx.st.glob hx.st.fresh (fun o b h=>by have:=ho o b h; omega) hX1 hA' (by
      intro M' m' w' k1 k2 k3 k4 k5 k6 k7
      obtain ⟨b1,b2⟩:=hback k7
      have hle':mLe m m':=fun x q hq=>by
       have hlt:x < st.nxt:=Nat.lt_of_not_le fun hh=>by rw [hx.st.fresh x hh] at hq; cases hq
       rw [k2 x hlt]; exact hq
      refine hnext M' m' _ w' ⟨⟨fun t=>?_,by rw [size_put]; exact hx.st.n,k5,k3,k6⟩,b1,by rw [defers_put]; exact b2,by rw [defers_put]; exact fun d hd c hc=>sep_xy (hx.sep d hd c hc)⟩ ⟨hs.1.trans k1,fun x hx'=>by rw [k2 x (by omega)]; exact hs.2 x hx'⟩ (by omega)
      simp only [get_putT]
      exact put_rep hx.st.n k1 hle' hx.st.tm (by simp [Rep]) t)
     refine ⟨fun _ _=>trivial,?_⟩
     have hrun:(o.semAt (FW none).round a.eval).run C.P w=.ok (.round L fn ((R.ps.toArray.zip (c.args.map a.eval)).foldl (fun tmps (t,a)=>tmps.setIfInBounds t a) tm) R.assign R.body) w:=by
      rw [semAt_eq' (.inl rfl)]
      unfold execOp
      simp only [o1,resolve,o2,f2,Deferred.ofValue,Sem.run_bind,Sem.run_pure,Result.andThen_ok,invoke]
      have:=run_yield (P:=C.P) (args:=c.args.map a.eval) hlw (by simpa [recOf] using hsz)
      simpa [recOf] using this
     rw [hrun,Oper.uponIn_round]
     exact ⟨fun h=>by simp at h,hround⟩
    split at h
    ·rename_i s hr
     exact main _ s none hr rfl fun M' m' a' w' h1 h2 h3=>evOpsY_sound hC hS hR hF hXL hy hm0 ho l _ st' p M' m' a' w' h h1 h2 h3 hQ
    ·rename_i s hr
     split at h
     ·rename_i st2 h2
      cases h
      exact main _ s (some .ret) hr rfl fun M' m' a' w' h1 h3 h4=>evOps_soundX hC hS.toSmOK l _ _ M' m' a' w' h2 h1 h3 h4 (.inl rfl) hQ
     ·cases h
    ·rename_i id s hr
     split at h
     ·rename_i st2 h2
      cases h
      exact main _ s (some (.exit id)) hr rfl fun M' m' a' w' h1 h3 h4=>evOps_soundX hC hS.toSmOK l _ _ M' m' a' w' h2 h1 h3 h4 (.inl rfl) hQ
     ·cases h
    ·cases h
   ·split at h
    ·rename_i r hop
     exact evOp_X hC hS.toSmOK hop hx hs hp (.inl rfl) fun M' m' a' w' h1 h2 h3=>evOpsY_sound hC hS hR hF hXL hy hm0 ho l _ st' p M' m' a' w' h h1 h2 h3 hQ
    ·cases h
  ·rename_i hw
   rw [wantD_sound hx.st.tm hw]
   simp only [Bool.false_eq_true,if_false]
   exact ⟨fun _ _=>trivial,evOpsY_sound hC hS hR hF hXL hy hm0 ho l _ st' p M m _ w h (hx.skip o.dst) hs hp hQ⟩
  ·cases h

theorem withP_spec {p p':Option Code} {r:Option (Exit × St)} {e:Exit} {s:St} (h:withP p r=some (e,s,p')):r=some (e,s)∧p'=p:=by
 unfold withP at h
 split at h
 ·cases h; exact ⟨rfl,rfl⟩
 ·cases h

theorem evCodeY_sound (hC:CfgOK C) (hS:SmOKL C S) {f:FuncId} {k:Nat} (hR:RndOK R tm M0 m0 L) (hF:¬ E.Fr L) (hXL:∀ o,¬ X L o):∀ (c:Code) (st:St) (e:Exit) (st':St) (p:Option Code) (M:Mem) (m:Loc) (a:Act) (w:World),evCodeY C S R f c st=some (e,st',p) →
  R.y < st.pin→(∀ k,st.pin≤k→m0 k=none) →
  StX C E (Xy R fn tm D L none false X) M m st a w→Since M0 m0 st.pin M m→st.pin≤st.nxt→(∀ o b,E.old o b→o < st.pin)→c.wpIn (FW none) k C.P (PostX C E (Xy R fn tm D L p false X) M0 m0 st.pin e st') a w:=by
 intro c
 induction c with
 | skip =>
  intro st e st' p M m a w h hy hm0 hr hs hp ho
  simp only [evCodeY,Option.some.injEq,Prod.mk.injEq] at h; obtain ⟨rfl,rfl,rfl⟩:=h
  exact wpIn_skip ⟨rfl,M,m,hr,hs,rfl,hp⟩
 | label l =>
  intro st e st' p M m a w h hy hm0 hr hs hp ho
  simp only [evCodeY,Option.some.injEq,Prod.mk.injEq] at h; obtain ⟨rfl,rfl,rfl⟩:=h
  exact wpIn_label ⟨rfl,M,m,hr,hs,rfl,hp⟩
 | ret =>
  intro st e st' p M m a w h hy hm0 hr hs hp ho
  simp only [evCodeY,Option.some.injEq,Prod.mk.injEq] at h; obtain ⟨rfl,rfl,rfl⟩:=h
  exact wpIn_ret ⟨rfl,M,m,hr,hs,rfl,hp⟩
 | exit id =>
  intro st e st' p M m a w h hy hm0 hr hs hp ho
  simp only [evCodeY,Option.some.injEq,Prod.mk.injEq] at h; obtain ⟨rfl,rfl,rfl⟩:=h
  exact wpIn_exit ⟨rfl,M,m,hr,hs,rfl,hp⟩
 | goto l=>intro st e st' p M m a w h; simp only [evCodeY] at h; cases h
 | region id ops draw =>
  intro st e st' p M m a w h hy hm0 hr hs hp ho
  simp only [evCodeY] at h
  cases draw with
  | true =>
   simp only [if_true] at h
   obtain ⟨h1,rfl⟩:=withP_spec h
   exact evCode_soundX hC hS _ _ _ _ M m a w h1 (.inl rfl) hr hs hp ho
  | false =>
   simp only [Bool.false_eq_true,if_false] at h
   split at h
   ·rename_i st1 p1 h1
    cases h
    have hpin:=evOpsY_pin _ _ _ _ h1
    exact wpIn_region_list (evOpsY_sound hC hS hR hF hXL hy hm0 ho _ _ _ _ M m a w h1 hr hs hp (fun M m a' w q1 q2 q3=>⟨rfl,M,m,q1,q2,hpin,q3⟩))
   ·cases h
 | seq x y ihx ihy =>
  intro st e st' p M m a w h hy hm0 hr hs hp ho
  simp only [evCodeY] at h
  refine wpIn_seq ?_
  split at h
  ·rename_i st1 h1
   refine wpIn_mono (ihx st .normal st1 none M m a w h1 hy hm0 hr hs hp ho) ?_
   rintro e1 a1 w1 ⟨rfl,M1,m1,q1,q2,q3,q4⟩
   have:=ihy st1 e st' p M1 m1 a1 w1 h (q3 ▸ hy) (q3 ▸ hm0) q1 (q3 ▸ q2) (q3 ▸ q4) (q3 ▸ ho)
   rw [q3] at this
   exact this
  ·rename_i st1 p1 h1
   obtain ⟨h2,rfl⟩:=withP_spec h
   refine wpIn_mono (ihx st .normal st1 _ M m a w h1 hy hm0 hr hs hp ho) ?_
   rintro e1 a1 w1 ⟨rfl,M1,m1,q1,q2,q3,q4⟩
   have:=evCode_soundX (k:=k) (ρ:=none) hC hS y st1 e st' M1 m1 a1 w1 h2 (.inl rfl) q1 (q3 ▸ q2) (q3 ▸ q4) (q3 ▸ ho)
   rw [q3] at this
   exact this
  ·rename_i hn1 hn2
   refine wpIn_mono (ihx st e st' p M m a w h hy hm0 hr hs hp ho) ?_
   rintro e1 a1 w1 ⟨rfl,hq⟩
   cases e1 with
   | normal=>cases p with
    | none=>exact absurd h (hn1 _)
    | some p=>exact absurd h (hn2 _ _)
   | _=>exact ⟨rfl,hq⟩
 | cond c x y ihx ihy =>
  intro st e st' p M m a w h hy hm0 hr hs hp ho
  simp only [evCodeY] at h
  split at h
  ·rename_i t ht
   have hv:=yb hr.st.glob hr.st.tm c
   rw [ht] at hv; simp only [Rep] at hv
   refine wpIn_cond hv ?_
   cases t with
   | true=>simp only [if_true] at h ⊢; exact ihx st e st' p M m a w h hy hm0 hr hs hp ho
   | false=>simp only [Bool.false_eq_true,if_false] at h ⊢; exact ihy st e st' p M m a w h hy hm0 hr hs hp ho
  ·cases h
 | block id x ih =>
  intro st e st' p M m a w h hy hm0 hr hs hp ho
  simp only [evCodeY] at h
  refine wpIn_block ?_
  split at h
  ·rename_i id' st1 p1 h1
   refine wpIn_mono (ih st _ st1 p1 M m a w h1 hy hm0 hr hs hp ho) ?_
   rintro e1 a1 w1 ⟨rfl,hq⟩
   simp only [Exit.inBlock]
   split at h
   ·rename_i hid
    cases h
    rw [if_pos hid]; exact ⟨rfl,hq⟩
   ·rename_i hid
    cases h
    rw [if_neg hid]; exact ⟨rfl,hq⟩
  ·rename_i hn
   refine wpIn_mono (ih st e st' p M m a w h hy hm0 hr hs hp ho) ?_
   rintro e1 a1 w1 ⟨rfl,hq⟩
   cases e1 with
   | exit id'=>exact absurd h (hn _ _ _)
   | _=>exact ⟨rfl,hq⟩
 | loop x ih =>
  intro st e st' p M m a w h hy hm0 hr hs hp ho
  simp only [evCodeY] at h
  split at h
  ·rename_i st1 h1
   obtain ⟨M',m',q1,q2,q3,q4⟩:=gc_X h1 hr hs hp ho
   obtain ⟨n,hn⟩:=hS.loopY
   have hn:=hn _ _ _ _ _ _ _ h k E X M0 M' m0 m' a w L D fn tm hR (q3 ▸ hy) (q3 ▸ hm0) hF hXL q1 (q3 ▸ q2) (q3 ▸ q4) (q3 ▸ ho)
   rw [q3] at hn
   exact wpIn_loop_rounds n hn
  ·cases h
 | scope x ih =>
  intro st e st' p M m a w h hy hm0 hr hs hp ho
  simp only [evCodeY] at h
  refine wpIn_scope_straight ?_
  split at h
  ·cases h
  ·rename_i hn
   refine wpIn_mono (ih st e st' p M m a w h hy hm0 hr hs hp ho) ?_
   rintro e1 a1 w1 ⟨rfl,hq⟩
   cases e1 with
   | goto l=>exact absurd h (hn _ _ _)
   | _=>exact ⟨rfl,hq⟩
 | _=>intro st e st' p M m a w h; simp only [evCodeY] at h; cases h
end
end Go.VS

namespace Go.VS
open Go Go.RowKit

section
variable {C:Cfg} {S:Sm} {E:Env C} {M M0:Mem} {m m0:Loc} {a:Act} {w:World} {st st':St}

def resV (a:Act):ResultVar→Sem Value
 | .tmp t=>pure (a.tmps.getD t undef)
 | .cell x t=>do loadVar t (← asAddr (a.tmps.getD x undef))
theorem results_resV (fn:Func) (a:Act):results fn a.tmps=(do let vs ← fn.results.mapM (resV a); pure (if h:vs.size=1 then vs[0] else .tuple vs)):=by
 unfold results
 congr 1
theorem resOf_sound (hC:CfgOK C) (hr:StRel C E M m st a w) {r:ResultVar} {d:D} (h:resOf C st r=some d) :
  ∃ v,(resV a r).run C.P w=.ok v w∧Rep M m d v:=by
 cases r with
 | tmp t =>
  simp only [resOf,Option.some.injEq] at h; subst h
  exact ⟨_,by simp only [resV,Sem.run_pure],hr.tm t⟩
 | cell x t =>
  simp only [resOf] at h
  split at h
  ·rename_i ty o i sz sub ht hg
   split at h
   ·rename_i ob hob
    split at h
    ·rename_i hsz; subst hsz
     split at h
     ·rename_i e he
      have hx:=hr.tm x
      rw [hg] at hx; simp only [Rep] at hx
      obtain ⟨b,s,h1,h2⟩:=hx
      obtain ⟨b',s',c,tc,q1,q2,q3,q4⟩:=hr.rel.ro.at_ o ob hob
      rw [h1] at q1; cases q1
      obtain ⟨u,u1,u2,u3⟩:=q4.2 i e he
      obtain ⟨v,hv,hsh,hcl⟩:=partD_sound u1 h
      refine ⟨v,?_,hv⟩
      simp only [resV,h2,asAddr,Sem.run_bind,Sem.run_pure,Result.andThen_ok]
      refine run_loadVar' (hC.ty t ty ht) ?_ fun j y hy=>?_
      ·rcases hsh with ⟨ha,hq,hs⟩ | ⟨ha,_,hp⟩
       ·exact .inl ⟨ha,⟨_,hq⟩,hs⟩
       ·exact .inr ⟨ha,hp⟩
      ·simp only [World.cell?,q2,Option.isSome_none,Bool.false_eq_true,if_false]
       have:=u3 _ y (hcl j y hy)
       rwa [← Nat.add_assoc] at this
     ·cases h
    ·cases h
   ·cases h
  ·cases h
theorem resAll_sound (hC:CfgOK C) (hr:StRel C E M m st a w):∀ (l:List ResultVar) (ds:List D),resAll C st l=some ds →
  ∃ vs:List Value,(l.mapM (resV a)).run C.P w=.ok vs w∧zU M m ds vs
 | [],ds,h=>by
  simp only [resAll,Option.some.injEq] at h; subst h
  exact ⟨[],by simp,by simp [zU]⟩
 | r::l,ds,h=>by
  simp only [resAll] at h
  split at h
  ·rename_i d ds' h1 h2
   cases h
   obtain ⟨v,v1,v2⟩:=resOf_sound hC hr h1
   obtain ⟨vs,w1,w2⟩:=resAll_sound hC hr l ds' h2
   refine ⟨v::vs,?_,by simp only [zU]; exact ⟨v,vs,rfl,v2,w2⟩⟩
   simp only [List.mapM_cons,Sem.run_bind,v1,Result.andThen_ok,w1,Sem.run_pure]
  ·cases h
theorem results_sound (hC:CfgOK C) (hr:StRel C E M m st a w) {fn:Func} {ds:List D} (h:resAll C st fn.results.toList=some ds):∃ v,(results fn a.tmps).run C.P w=.ok v w∧Rep M m (tupOf ds) v:=by
 obtain ⟨vs,h1,h2⟩:=resAll_sound hC hr _ _ h
 have hlen:=h2.length
 have hrun:(results fn a.tmps).run C.P w=.ok (if h:vs.toArray.size=1 then vs.toArray[0] else .tuple vs.toArray) w:=by
  rw [results_resV,Array.mapM_eq_mapM_toList,map_eq_pure_bind]
  simp only [Sem.run_bind,h1,Result.andThen_ok,Sem.run_pure]
 refine ⟨_,hrun,?_⟩
 cases ds with
 | nil =>
  simp only [zU] at h2; subst h2
  simp only [tupOf,Rep]; exact ⟨#[],rfl,by simp [zU]⟩
 | cons d ds =>
  simp only [zU] at h2
  obtain ⟨v,r,rfl,h3,h4⟩:=h2
  cases ds with
  | nil=>simp only [zU] at h4; subst h4; simpa [tupOf] using h3
  | cons d2 ds =>
   simp only [zU] at h4
   obtain ⟨v2,r2,rfl,h5,h6⟩:=h4
   simp only [tupOf,Rep]
   refine ⟨(v::v2::r2).toArray,by simp,?_⟩
   simp only [zU]; exact ⟨v,_,rfl,h3,v2,_,rfl,h5,h6⟩

theorem get_number:∀ (l:List D) (k t:Nat),get (number k l) t=if k≤t then (l[t - k]?).getD .unk else .unk
 | [],k,t=>by simp [number,get]
 | d::r,k,t=>by
  simp only [number,get,get_number r (k+1) t]
  cases h:eqb k t with
  | true=>have:=yz.1 h; subst this; simp
  | false =>
   have:=eqb_false.1 h
   simp only [cond_false]
   by_cases hk:k≤t
   ·rw [if_pos (by omega),if_pos hk,show t - k=(t - (k+1))+1 by omega,List.getElem?_cons_succ]
   ·rw [if_neg (by omega),if_neg hk]

theorem leaves_marks {fn:Func} {R:Ending→World→Prop} {k:Nat}:∀ (ds:List Deferred) (w:World),Marks E ds w→StRel C E M m st a w→(∀ w',StRel C E M m st a w'→∃ v,(results fn a.tmps).run C.P w'=.ok v w'∧R (.returned v) w') →
  LeavesInM (FW none) k C.P fn a.tmps R ds .returning w
 | [],w,_,hr,hR=>hR w hr
 | d::ds,w,hm,hr,hR=>by
  obtain ⟨D,h1,h2⟩:=hm.1 d (by simp)
  have hF:=hm.2.2 d (by simp) D h1
  refine ⟨by simp,.inl ⟨D,_,by rw [h1],run_takeDeferred h2,?_⟩⟩
  refine leaves_marks ds _ ⟨fun d' hd'=>?_,(List.pairwise_cons.1 hm.2.1).2,fun d' hd'=>hm.2.2 d' (by simp [hd'])⟩ ⟨hr.tm,hr.n,hr.rel.putObj h2 rfl hF _,hr.fresh,hr.glob⟩ hR
  obtain ⟨D',h3,h4⟩:=hm.1 d' (by simp [hd'])
  refine ⟨D',h3,?_⟩
  have hne:D' ≠ D:=by
   rintro rfl
   exact (List.pairwise_cons.1 hm.2.1).1 d' hd' (h1.trans h3.symm)
  rw [World.putObj_heap_other hne]; exact h4

theorem leaves_marksX {X:Nat→Obj→Prop} {fn:Func} {R:Ending→World→Prop} {k:Nat} (hsep:∀ d∈a.defers,∀ D,d={ target:=.collected D,args:=#[] }→∀ o,¬ X D o):∀ (ds:List Deferred) (w:World),(∀ d∈ds,d∈a.defers)→Marks E ds w→StRel C E M m st a w→XOK X w→(∀ w',StRel C E M m st a w'→XOK X w'→∃ v,(results fn a.tmps).run C.P w'=.ok v w'∧R (.returned v) w') →
  LeavesInM (FW none) k C.P fn a.tmps R ds .returning w
 | [],w,_,_,hr,hx,hR=>hR w hr hx
 | d::ds,w,hsub,hm,hr,hx,hR=>by
  obtain ⟨D,h1,h2⟩:=hm.1 d (by simp)
  have hF:=hm.2.2 d (by simp) D h1
  refine ⟨by simp,.inl ⟨D,_,by rw [h1],run_takeDeferred h2,?_⟩⟩
  refine leaves_marksX hsep ds _ (fun d' hd'=>hsub d' (by simp [hd'])) ⟨fun d' hd'=>?_,(List.pairwise_cons.1 hm.2.1).2,fun d' hd'=>hm.2.2 d' (by simp [hd'])⟩ ⟨hr.tm,hr.n,hr.rel.putObj h2 rfl hF _,hr.fresh,hr.glob⟩ (fun b o ho=>?_) hR
  ·obtain ⟨D',h3,h4⟩:=hm.1 d' (by simp [hd'])
   refine ⟨D',h3,?_⟩
   have hne:D' ≠ D:=by
    rintro rfl
    exact (List.pairwise_cons.1 hm.2.1).1 d' hd' (h1.trans h3.symm)
   rw [World.putObj_heap_other hne]; exact h4
  ·have hne:b ≠ D:=by rintro rfl; exact hsep d (hsub d (by simp)) b h1 o ho
   rw [World.putObj_heap_other hne]; exact hx b o ho

theorem start_rel {K:FuncId} {fn:Func} {args:List D} {objs:List (Nat × Ob)} {nxt:Nat} {vs:Array Value} (hR:Rel E M m w (zB objs)) (hG:yx C M) (hA:zU M m args vs.toList) (hf:∀ k,nxt≤k→m k=none) :
  StRel C E M m ⟨max fn.ntmps args.length,number 0 args,objs,nxt,nxt⟩ { tmps:=vs++Array.replicate (fn.ntmps - vs.size) undef,defers:=[] } w:=by
 have hlen:=hA.length
 simp only [Array.length_toList] at hlen
 refine ⟨fun t=>?_,?_,hR,hf,hG⟩
 ·rw [get_number]
  simp only [Nat.zero_le,if_true,Nat.sub_zero,Array.getD_eq_getD_getElem?]
  cases hd:args[t]? with
  | none=>simp [Rep]
  | some d =>
   obtain ⟨v,hv,hrv⟩:=hA.get hd
   have hv':vs[t]?=some v:=by simpa using hv
   have hlt:=(Array.getElem?_eq_some_iff.1 hv').1
   rw [Array.getElem?_append_left hlt,hv']
   exact hrv
 ·simp; omega

theorem runFn_sound (hC:CfgOK C) (hS:SmOKL C S) {K:FuncId} {args:List D} {objs objs':List (Nat × Ob)} {nxt nxt':Nat} {d:D} (h:runFn C S K args objs nxt=some (d,objs',nxt')) :
  InlOK C K args objs nxt d objs' nxt':=by
 intro E M m w vs hR hG hA hf ho
 unfold runFn at h
 split at h
 ·rename_i fn hfn
  split at h
  ·rename_i c hc
   refine (callsIn_wide (n:=0)).1 (callsIn_of_wp_marks (F:=FW none) (hC.fn _ _ hfn) hc trivial ?_)
   have hx0:StX C E (fun _ _=>False) M m ⟨max fn.ntmps args.length,number 0 args,objs,nxt,nxt⟩ { tmps:=vs++Array.replicate (fn.ntmps - vs.size) undef,defers:=[] } w :=
    ⟨start_rel (K:=K) hR hG hA hf,fun _ _ h=>h.elim,Marks.nil w,fun d hd=>(by cases hd)⟩
   have key:∀ e st',yo C S K c ⟨max fn.ntmps args.length,number 0 args,objs,nxt,nxt⟩=some (e,st')→(e=.normal ∨ e=.ret)→∀ ds,resAll C st' fn.results.toList=some ds→some (tupOf ds,st'.objs,st'.nxt)=some (d,objs',nxt') →
     c.wpIn (FW none) 0 C.P (bodyPostM (FW none) 0 C.P fn fun e w'=>∃ v M' m',e=.returned v∧MLe M M'∧(∀ x,x < nxt→m' x=m x)∧(∀ x,nxt'≤x→nxt≤x→m' x=none)∧Rep M' m' d v∧Rel E M' m' w' (zB objs')) { tmps:=vs++Array.replicate (fn.ntmps - vs.size) undef,defers:=[] } w:=by
    intro e st' hev he ds hds heq
    cases heq
    refine wpIn_mono (evCode_soundX hC hS c _ e st' M m _ w hev (.inl rfl) hx0 (Since.refl M m nxt) (Nat.le_refl _) ho) ?_
    rintro e1 a1 w1 ⟨rfl,M1,m1,q1,q2,q3,q4⟩
    have hres:LeavesInM (FW none) 0 C.P fn a1.tmps (fun e w'=>∃ v M' m',e=.returned v∧MLe M M'∧(∀ x,x < nxt→m' x=m x)∧(∀ x,st'.nxt≤x→nxt≤x→m' x=none)∧Rep M' m' (tupOf ds) v∧Rel E M' m' w' (zB st'.objs)) a1.defers .returning w1:=by
     refine leaves_marks a1.defers w1 q1.mark q1.st fun w' hw'=>?_
     obtain ⟨v,v1,v2⟩:=results_sound hC hw' hds
     exact ⟨v,v1,v,M1,m1,rfl,q2.1,q2.2,fun x hx _=>q1.st.fresh x hx,v2,hw'.rel⟩
    rcases he with rfl | rfl
    ·exact hres
    ·exact hres
   split at h
   ·rename_i st' hev
    split at h
    ·rename_i ds hds; exact key _ st' hev (.inl rfl) ds hds h
    ·cases h
   ·rename_i st' hev
    split at h
    ·rename_i ds hds; exact key _ st' hev (.inr rfl) ds hds h
    ·cases h
   ·cases h
  ·cases h
 ·cases h
theorem runIter_sound (hC:CfgOK C) (hS:SmOKL C S) {R:Rnd} {K:FuncId} {args:List D} {objs objs':List (Nat × Ob)} {nxt nxt':Nat} {p:Option Code} (h:runIter C S R K args objs nxt=some (objs',nxt',p)) :
  IterOK C R K args objs nxt objs' nxt' p:=by
 intro k E X M m w vs L D fnr tm hRn hy hR hG hA hf ho hF hXL hX
 unfold runIter at h
 split at h
 ·rename_i fn hfn
  split at h
  ·rename_i c hc
   refine callsIn_of_wp_marks (F:=FW none) (hC.fn _ _ hfn) hc trivial ?_
   have hx0:StX C E (Xy R fnr tm D L none false X) M m ⟨max fn.ntmps args.length,number 0 args,objs,nxt,nxt⟩ { tmps:=vs++Array.replicate (fn.ntmps - vs.size) undef,defers:=[] } w :=
    ⟨start_rel (K:=K) hR hG hA hf,hX,Marks.nil w,fun d hd=>(by cases hd)⟩
   have key:∀ e st' p',evCodeY C S R K c ⟨max fn.ntmps args.length,number 0 args,objs,nxt,nxt⟩=some (e,st',p')→(e=.normal ∨ e=.ret)→finY C fn st' p'=some (objs',nxt',p) →
     c.wpIn (FW none) k C.P (bodyPostM (FW none) k C.P fn fun e w'=>∃ v M' m',e=.returned v∧MLe M M'∧(∀ x,x < nxt→m' x=m x)∧(∀ x,nxt'≤x→m' x=none)∧nxt≤nxt'∧Rel E M' m' w' (zB objs')∧yx C M'∧XOK (Xy R fnr tm D L p false X) w') { tmps:=vs++Array.replicate (fn.ntmps - vs.size) undef,defers:=[] } w:=by
    intro e st' p' hev he hfin
    unfold finY at hfin
    split at hfin
    case h_2=>cases hfin
    rename_i ds hds
    cases hfin
    refine wpIn_mono (evCodeY_sound hC hS (M0:=M) (m0:=m) hRn hF hXL c _ e st' _ M m _ w hev hy hf hx0 (Since.refl M m nxt) (Nat.le_refl _) ho) ?_
    rintro e1 a1 w1 ⟨rfl,M1,m1,q1,q2,q3,q4⟩
    have hres:LeavesInM (FW none) k C.P fn a1.tmps (fun e w'=>∃ v M' m',e=.returned v∧MLe M M'∧(∀ x,x < nxt→m' x=m x)∧(∀ x,st'.nxt≤x→m' x=none)∧nxt≤st'.nxt∧Rel E M' m' w' (zB st'.objs)∧yx C M'∧XOK (Xy R fnr tm D L p false X) w') a1.defers .returning w1:=by
     refine leaves_marksX q1.sep a1.defers w1 (fun _ h=>h) q1.mark q1.st q1.x fun w' hw' hx'=>?_
     obtain ⟨v,v1,v2⟩:=results_sound hC hw' hds
     exact ⟨v,v1,v,M1,m1,rfl,q2.1,q2.2,fun x hx=>q1.st.fresh x hx,q4,hw'.rel,hw'.glob,hx'⟩
    rcases he with rfl | rfl
    ·exact hres
    ·exact hres
   split at h
   ·rename_i st' p' hev; exact key _ st' p' hev (.inl rfl) h
   ·rename_i st' p' hev; exact key _ st' p' hev (.inr rfl) h
   ·cases h
  ·cases h
 ·cases h

structure ExtOK (C:Cfg):Prop where
 pure:∀ K g args d,C.ext K=some g→g args=some d→PureOK C K args d
 inl:∀ K g args objs nxt d objs' nxt',C.xinl K=some g→g args objs nxt=some (d,objs',nxt')→InlOK C K args objs nxt d objs' nxt'

theorem runPure_sound (hC:CfgOK C) (hX:ExtOK C) (hS:SmOKL C S) {K:FuncId} {args:List D} {d:D} (h:runPure C S K args=some d):PureOK C K args d:=by
 unfold runPure at h
 split at h
 ·rename_i g hg; exact hX.pure K g args d hg h
 ·split at h
  ·rename_i d0 objs n hrun
   split at h
   ·rename_i d1 ids hs
    cases h
    intro M w vs hM hG hT hA
    let E:Env C:=⟨fun b=>b < w.heap.size,w,M,fun _ _=>False,fun k cs hk=>by
     obtain ⟨t,fr,h2⟩:=hT k cs hk
     exact ⟨(Array.getElem?_eq_some_iff.1 h2).1,t,fr,h2⟩⟩
    have hR:Rel E M noLoc w (zB []):=⟨⟨rfl,fun _=>Nat.le_refl _⟩,rfl,rfl,Nat.le_refl _,fun _ _=>rfl,fun _ hb=>hb,fun _ _ _ _=>rfl,hM,
     ⟨fun o ob h=>by simp [zB] at h,fun o ob h=>by simp [zB] at h,fun o o' ob ob' b s s' h=>by simp [zB] at h,fun o ob b s h=>by simp [zB] at h⟩⟩
    refine Calls.mono (runFn_sound hC hS hrun E M noLoc w vs hR hG hA (fun _ _=>rfl) (fun _ _ h=>h.elim)) ?_
    rintro e w' ⟨v,M',m',rfl,k1,k2,k3,k4,k5⟩
    have hsome:=snap_rd hs
    refine ⟨v,withObs M' m' w' ids,rfl,k1.trans (withObs_le k5.mok),withObs_ok k5.mok,snap_sound k5 (gO:=zB objs) (ids:=ids) (fun _ _=>rfl) hs (fun _ hk=>hk) k4,k5.os,k5.tape,k5.output,k5.size,k5.keep,fun b hb i=>?_⟩
    rw [withObs_out (fun k hk s hks=>?_) i]
    ·exact k5.mfr b hb (fun _ h=>h) i
    ·obtain ⟨ob,hob⟩:=hsome k hk
     exact (k5.ro.fr k ob b s hob hks hb).2
   ·cases h
  ·cases h

theorem runLoop_sound (hC:CfgOK C) (hS:SmOKL C S) {n:Nat} (hn:∀ f c st e st',S.loop f c st=some (e,st')→LoopOK C n c st e st') {f:FuncId} {c:Code} {st st':St} {e:Exit} (h:runLoop C S f c st=some (e,st')) :
  LoopOK C (n+1) c st e st':=by
 intro ρ k E X M0 M m0 m a w hd hr hs hp ho
 rw [roundsIn_succ]
 unfold runLoop at h
 split at h
 ·rename_i st1 h1
  split at h
  ·rename_i st2 h2
   refine wpIn_mono (evCode_soundX hC hS c st .normal st1 M m a w h1 hd hr hs hp ho) ?_
   rintro e1 a1 w1 ⟨rfl,M1,m1,q1,q2,q3,q4⟩
   obtain ⟨M2,m2,r1,r2,r3,r4⟩:=gc_X h2 q1 (q3 ▸ q2) (q3 ▸ q4) (q3 ▸ ho)
   have:=hn f c st2 e st' h ρ k E X M0 M2 m0 m2 a1 w1 hd r1 (by rw [r3]; exact r2) (by rw [r3]; exact r4) (by rw [r3]; exact q3 ▸ ho)
   rw [r3,q3] at this
   exact this
  ·cases h
 ·rename_i hno
  refine wpIn_mono (evCode_soundX hC hS c st e st' M m a w h hd hr hs hp ho) ?_
  rintro e1 a1 w1 ⟨rfl,hq⟩
  cases e1 with
  | normal=>exact absurd h (hno _)
  | _=>exact ⟨rfl,hq⟩
theorem runLoopY_sound (hC:CfgOK C) (hS:SmOKL C S) {n:Nat} (hn1:∀ f c st e st',S.loop f c st=some (e,st')→LoopOK C n c st e st') (hn:∀ R f c st e st' p,S.loopY R f c st=some (e,st',p)→LoopYOK C n R c st e st' p)
  {R:Rnd} {f:FuncId} {c:Code} {st st':St} {e:Exit} {p:Option Code} (h:runLoopY C S R f c st=some (e,st',p)):LoopYOK C (n+1) R c st e st' p:=by
 intro k E X M0 M m0 m a w L D fn tm hR hy hm0 hF hXL hr hs hp ho
 rw [roundsIn_succ]
 unfold runLoopY at h
 split at h
 ·rename_i st1 h1
  split at h
  ·rename_i st2 h2
   refine wpIn_mono (evCodeY_sound hC hS hR hF hXL c st .normal st1 none M m a w h1 hy hm0 hr hs hp ho) ?_
   rintro e1 a1 w1 ⟨rfl,M1,m1,q1,q2,q3,q4⟩
   obtain ⟨M2,m2,r1,r2,r3,r4⟩:=gc_X h2 q1 (q3 ▸ q2) (q3 ▸ q4) (q3 ▸ ho)
   have:=hn R f c st2 e st' p h k E X M0 M2 m0 m2 a1 w1 L D fn tm hR (by rw [r3]; exact q3 ▸ hy) (by rw [r3]; exact q3 ▸ hm0) hF hXL r1 (by rw [r3]; exact r2) (by rw [r3]; exact r4) (by rw [r3]; exact q3 ▸ ho)
   rw [r3,q3] at this
   exact this
  ·cases h
 ·rename_i st1 p1 h1
  split at h
  ·rename_i st2 h2
   obtain ⟨h3,rfl⟩:=withP_spec h
   refine wpIn_mono (evCodeY_sound hC hS hR hF hXL c st .normal st1 _ M m a w h1 hy hm0 hr hs hp ho) ?_
   rintro e1 a1 w1 ⟨rfl,M1,m1,q1,q2,q3,q4⟩
   obtain ⟨M2,m2,r1,r2,r3,r4⟩:=gc_X h2 q1 (q3 ▸ q2) (q3 ▸ q4) (q3 ▸ ho)
   have:=hn1 f c st2 e st' h3 none k E (Xy R fn tm D L (some p1) false X) M0 M2 m0 m2 a1 w1 (.inl rfl) r1 (by rw [r3]; exact r2) (by rw [r3]; exact r4) (by rw [r3]; exact q3 ▸ ho)
   rw [r3,q3] at this
   exact this
  ·cases h
 ·rename_i hno1 hno2
  refine wpIn_mono (evCodeY_sound hC hS hR hF hXL c st e st' p M m a w h hy hm0 hr hs hp ho) ?_
  rintro e1 a1 w1 ⟨rfl,hq⟩
  cases e1 with
  | normal=>cases p with
   | none=>exact absurd h (hno1 _)
   | some p=>exact absurd h (hno2 _ _)
  | _=>exact ⟨rfl,hq⟩

theorem sem_sound (hC:CfgOK C) (hX:ExtOK C):∀ n,SmOKL C (sem C n)
 | 0=>⟨⟨fun K args d h=>by simp [sem] at h,fun K args objs nxt d objs' nxt' h=>by simp [sem] at h⟩,⟨0,fun f c st e st' h=>by simp [sem] at h⟩,⟨0,fun R f c st e st' p h=>by simp [sem] at h⟩,fun R K args objs nxt objs' nxt' p h=>by simp [sem] at h⟩
 | n+1=>by
  have ih:=sem_sound hC hX n
  obtain ⟨k1,hk1⟩:=ih.loop
  obtain ⟨k2,hk2⟩:=ih.loopY
  refine ⟨⟨fun K args d h=>runPure_sound hC hX ih h,fun K args objs nxt d objs' nxt' h=>?_⟩,⟨k1+1,fun f c st e st' h=>runLoop_sound hC ih hk1 h⟩,⟨max k1 k2+1,fun R f c st e st' p h=>runLoopY_sound hC ih ?_ ?_ h⟩,fun R K args objs nxt objs' nxt' p h=>runIter_sound hC ih h⟩
  ·simp only [sem,runInl] at h
   split at h
   ·rename_i g hg; exact hX.inl K g args objs nxt d objs' nxt' hg h
   ·exact runFn_sound hC ih h
  ·intro f c st e st' h ρ k E X M0 M m0 m a w hd hr hs hp ho
   exact roundsIn_le (Nat.le_max_left _ _) (hk1 f c st e st' h ρ k E X M0 M m0 m a w hd hr hs hp ho)
  ·intro R f c st e st' p h k E X M0 M m0 m a w L D fn tm h1 h2 h3 h4 h5 h6 h7 h8 h9
   exact roundsIn_le (Nat.le_max_right _ _) (hk2 R f c st e st' p h k E X M0 M m0 m a w L D fn tm h1 h2 h3 h4 h5 h6 h7 h8 h9)
end
end Go.VS

