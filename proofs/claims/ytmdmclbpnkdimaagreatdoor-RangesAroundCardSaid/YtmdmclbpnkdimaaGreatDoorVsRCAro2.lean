/- Nothing of a statement is proved in this text alone: it is part 2 of the proof's own tools, an evaluator of the code over deep values, its soundness, and what it makes of this seat's functions. Conditions: none beyond the statement's own. -/
import Derived.Test.YtmdmclbpnkdimaaGreatDoorVsRCAro1
import Derived.KernelRfl
import Derived.Test.YtmdmclbpnkdimaaGreatDoorProg
import Derived.OpenShut
import Derived.Deep.Slices
import Derived.ChangeStays
import Derived.ReadAgain
import Derived.ChangeSame
import Derived.ChangeBears2
import Derived.Shelf.GgSortFunc.InsertionK
import Derived.Shelf.SlSortCmp.WholeK
set_option linter.unusedSimpArgs false
set_option linter.unusedVariables false
namespace Go.VS
open Go

structure Le (S S':Sm):Prop where
 pure:∀ K args d,S.pure K args=some d→S'.pure K args=some d
 inl:∀ K args objs nxt r,S.inl K args objs nxt=some r→S'.inl K args objs nxt=some r
 loop:∀ f c st r,S.loop f c st=some r→S'.loop f c st=some r
 loopY:∀ R f c st r,S.loopY R f c st=some r→S'.loopY R f c st=some r
 iter:∀ R K args objs nxt r,S.iter R K args objs nxt=some r→S'.iter R K args objs nxt=some r
theorem Le.refl (S:Sm):Le S S:=⟨fun _ _ _ h=>h,fun _ _ _ _ _ h=>h,fun _ _ _ _ h=>h,fun _ _ _ _ _ h=>h,fun _ _ _ _ _ _ h=>h⟩
theorem Le.trans {a b c:Sm} (h:Le a b) (k:Le b c):Le a c:=⟨fun _ _ _ x=>k.pure _ _ _ (h.pure _ _ _ x),fun _ _ _ _ _ x=>k.inl _ _ _ _ _ (h.inl _ _ _ _ _ x),fun _ _ _ _ x=>k.loop _ _ _ _ (h.loop _ _ _ _ x),
 fun _ _ _ _ _ x=>k.loopY _ _ _ _ _ (h.loopY _ _ _ _ _ x),fun _ _ _ _ _ _ x=>k.iter _ _ _ _ _ _ (h.iter _ _ _ _ _ _ x)⟩

section
variable {C:Cfg} {S S':Sm}
theorem callD_mono (h:Le S S') {gT:Nat→D} {objs:List (Nat × Ob)} {nxt:Nat} {c:Call} {r:Out} (hr:callD C S gT objs nxt c=some r):callD C S' gT objs nxt c=some r:=by
 unfold callD at hr ⊢
 split at hr
 ·rename_i b hb; exact hr
 ·rename_i f hf
  try simp only [hf]
  split at hr
  ·rename_i g first captured hg
   try simp only [hg]
   split at hr
   ·try simp only []
    unfold callK at hr ⊢
    split at hr
    ·rename_i fn hfn
     try simp only [hfn]
     split at hr
     ·rename_i hi
      try simp only [if_pos hi]
      unfold callInl at hr ⊢
      split at hr
      ·rename_i l hl
       try simp only [hl]
       split at hr
       ·rename_i ids hids
        try simp only [hids]
        cases hb:allBelow nxt ids with
        | false=>rw [hb] at hr; cases hr
        | true =>
         rw [hb] at hr
         simp only [cond_true] at hr ⊢
         split at hr
         ·rename_i d objs' nxt' hinl
          rw [h.inl _ _ _ _ _ hinl]; exact hr
         ·cases hr
       ·cases hr
      ·cases hr
     ·rename_i hi
      try simp only [if_neg hi]
      unfold callPure at hr ⊢
      split at hr
      ·rename_i args' ids hs
       try simp only [hs]
       split at hr
       ·rename_i d hd
        rw [h.pure _ _ _ hd]; exact hr
       ·cases hr
      ·cases hr
    ·cases hr
   ·cases hr
  ·cases hr
 ·cases hr
theorem evOp_mono (h:Le S S') {gT:Nat→D} {objs:List (Nat × Ob)} {nxt:Nat} {o:Oper} {r:Out} (hr:evOp C S gT objs nxt o=some r):evOp C S' gT objs nxt o=some r:=by
 unfold evOp at hr ⊢
 split at hr
 all_goals first | exact hr | (cases hr; done) | exact callD_mono h hr
theorem evOps_mono (h:Le S S') {ops:Array Oper}:∀ (l:List Oper) (st st':St),evOps C S ops l st=some st'→evOps C S' ops l st=some st'
 | [],_,_,hr=>hr
 | o::l,st,st',hr=>by
  simp only [evOps] at hr ⊢
  split at hr
  ·rename_i hw
   try simp only [hw]
   split at hr
   ·rename_i r hop
    rw [evOp_mono h hop]
    exact evOps_mono h l _ _ hr
   ·cases hr
  ·rename_i hw
   try simp only [hw]
   exact evOps_mono h l _ _ hr
  ·cases hr
theorem evOpsT_mono (h:Le S S') {ops:Array Oper}:∀ (l:List Oper) (st:St) (r:St × Trace),evOpsT C S ops l st=some r→evOpsT C S' ops l st=some r
 | [],_,_,hr=>hr
 | o::l,st,r,hr=>by
  simp only [evOpsT] at hr ⊢
  split at hr
  ·rename_i hw
   try simp only [hw]
   split at hr
   ·rename_i r1 hop
    rw [evOp_mono h hop]
    try simp only []
    split at hr
    ·rename_i h1
     rw [evOpsT_mono h l _ _ h1]; exact hr
    ·cases hr
   ·cases hr
  ·rename_i hw
   try simp only [hw]
   split at hr
   ·rename_i h1
    rw [evOpsT_mono h l _ _ h1]; exact hr
   ·cases hr
  ·cases hr
theorem evCode_mono (h:Le S S') {f:FuncId}:∀ (c:Code) (st:St) (r:Exit × St),yo C S f c st=some r→yo C S' f c st=some r:=by
 intro c
 induction c with
 | region id ops draw =>
  intro st r hr
  simp only [yo] at hr ⊢
  split at hr
  ·rename_i hd
   try rw [if_pos hd]
   split at hr
   ·rename_i h1
    rw [evOpsT_mono h _ _ _ h1]; exact hr
   ·cases hr
  ·rename_i hd
   try rw [if_neg hd]
   split at hr
   ·rename_i h1
    rw [evOps_mono h _ _ _ h1]; exact hr
   ·cases hr
 | seq x y ihx ihy =>
  intro st r hr
  simp only [yo] at hr ⊢
  split at hr
  ·rename_i st1 h1
   rw [ihx _ _ h1]; exact ihy _ _ hr
  ·rename_i hn
   have:=ihx _ _ hr
   rw [this]
   split
   ·rename_i st1 h1
    cases h1
    exact absurd hr (hn _)
   ·rfl
 | cond c x y ihx ihy =>
  intro st r hr
  simp only [yo] at hr ⊢
  split at hr
  ·rename_i t ht
   try rw [ht]
   try simp only []
   split at hr
   ·rename_i h1; rw [if_pos h1]; exact ihx _ _ hr
   ·rename_i h1; rw [if_neg h1]; exact ihy _ _ hr
  ·cases hr
 | block id x ih =>
  intro st r hr
  simp only [yo] at hr ⊢
  split at hr
  ·rename_i id' st1 h1
   rw [ih _ _ h1]; exact hr
  ·rename_i hn
   have:=ih _ _ hr
   rw [this]
   split
   ·rename_i id' st1 h1
    cases h1
    exact absurd hr (hn _ _)
   ·rfl
 | loop x ih =>
  intro st r hr
  simp only [yo] at hr ⊢
  split at hr
  ·rename_i st1 h1
   exact h.loop _ _ _ _ hr
  ·cases hr
 | scope x ih =>
  intro st r hr
  simp only [yo] at hr ⊢
  split at hr
  ·cases hr
  ·rename_i hn
   have:=ih _ _ hr
   rw [this]
   split
   ·rename_i l st1 h1
    cases h1
    exact absurd hr (hn _ _)
   ·rfl
 | rangeFunc g ps x y _ _ =>
  intro st r hr
  simp only [yo] at hr ⊢
  split at hr
  ·rename_i hnr
   rw [if_pos hnr]
   split at hr
   ·rename_i K first captured hg
    try simp only [hg]
    split at hr
    ·rename_i fn hfn
     try simp only [hfn]
     split at hr
     ·rename_i objs' nxt' p hit
      rw [h.iter _ _ _ _ _ _ hit]; exact hr
     ·cases hr
    ·cases hr
   ·cases hr
  ·cases hr
 | _=>intro st r hr; simp only [yo] at hr ⊢; exact hr
theorem evRound_mono (h:Le S S') {R:Rnd} {args:List D} {objs:List (Nat × Ob)} {nxt:Nat} {r:Exit × St} (hr:evRound C S R args objs nxt=some r):evRound C S' R args objs nxt=some r:=by
 unfold evRound at hr ⊢
 split at hr
 ·rename_i hl
  rw [if_pos hl]
  split at hr
  ·rename_i st1 h1
   rw [evCode_mono h _ _ _ h1]; exact evCode_mono h _ _ _ hr
  ·cases hr
 ·cases hr
theorem evOpsY_mono (h:Le S S') {R:Rnd} {ops:Array Oper}:∀ (l:List Oper) (st:St) (r:St × Option Code),evOpsY C S R ops l st=some r→evOpsY C S' R ops l st=some r
 | [],_,_,hr=>hr
 | o::l,st,r,hr=>by
  simp only [evOpsY] at hr ⊢
  split at hr
  ·rename_i hw
   try simp only [hw]
   split at hr
   ·rename_i args hy
    try simp only [hy]
    split at hr
    ·rename_i s1 h1
     rw [evRound_mono h h1]; exact evOpsY_mono h l _ _ hr
    ·rename_i s1 h1
     rw [evRound_mono h h1]
     try simp only []
     split at hr
     ·rename_i s2 h2
      rw [evOps_mono h _ _ _ h2]; exact hr
     ·cases hr
    ·rename_i id s1 h1
     rw [evRound_mono h h1]
     try simp only []
     split at hr
     ·rename_i s2 h2
      rw [evOps_mono h _ _ _ h2]; exact hr
     ·cases hr
    ·cases hr
   ·rename_i hy
    try simp only [hy]
    split at hr
    ·rename_i r1 hop
     rw [evOp_mono h hop]; exact evOpsY_mono h l _ _ hr
    ·cases hr
  ·rename_i hw
   try simp only [hw]
   exact evOpsY_mono h l _ _ hr
  ·cases hr
theorem withP_some {p:Option Code} {r:Option (Exit × St)} {q:Exit × St × Option Code} (h:withP p r=some q):∃ e st,r=some (e,st)∧q=(e,st,p):=by
 unfold withP at h
 split at h
 ·cases h; exact ⟨_,_,rfl,rfl⟩
 ·cases h
theorem evCodeY_mono (h:Le S S') {R:Rnd} {f:FuncId}:∀ (c:Code) (st:St) (r:Exit × St × Option Code),evCodeY C S R f c st=some r→evCodeY C S' R f c st=some r:=by
 intro c
 induction c with
 | region id ops draw =>
  intro st r hr
  simp only [evCodeY] at hr ⊢
  split at hr
  ·rename_i hd
   rw [if_pos hd]
   obtain ⟨e,st1,h1,rfl⟩:=withP_some hr
   rw [evCode_mono h _ _ _ h1]; rfl
  ·rename_i hd
   rw [if_neg hd]
   split at hr
   ·rename_i h1
    rw [evOpsY_mono h _ _ _ h1]; exact hr
   ·cases hr
 | seq x y ihx ihy =>
  intro st r hr
  simp only [evCodeY] at hr ⊢
  split at hr
  ·rename_i st1 h1
   rw [ihx _ _ h1]; exact ihy _ _ hr
  ·rename_i st1 p1 h1
   rw [ihx _ _ h1]
   obtain ⟨e,st2,h2,rfl⟩:=withP_some hr
   simp only [evCode_mono h _ _ _ h2]; rfl
  ·rename_i hn1 hn2
   have:=ihx _ _ hr
   rw [this]
   split
   ·rename_i st1 h1
    cases h1
    exact absurd hr (hn1 _)
   ·rename_i st1 p1 h1
    cases h1
    exact absurd hr (hn2 _ _)
   ·rfl
 | cond c x y ihx ihy =>
  intro st r hr
  simp only [evCodeY] at hr ⊢
  split at hr
  ·rename_i t ht
   try rw [ht]
   try simp only []
   split at hr
   ·rename_i h1; rw [if_pos h1]; exact ihx _ _ hr
   ·rename_i h1; rw [if_neg h1]; exact ihy _ _ hr
  ·cases hr
 | block id x ih =>
  intro st r hr
  simp only [evCodeY] at hr ⊢
  split at hr
  ·rename_i id' st1 p1 h1
   rw [ih _ _ h1]; exact hr
  ·rename_i hn
   have:=ih _ _ hr
   rw [this]
   split
   ·rename_i id' st1 p1 h1
    cases h1
    exact absurd hr (hn _ _ _)
   ·rfl
 | loop x ih =>
  intro st r hr
  simp only [evCodeY] at hr ⊢
  split at hr
  ·rename_i st1 h1
   exact h.loopY _ _ _ _ _ hr
  ·cases hr
 | scope x ih =>
  intro st r hr
  simp only [evCodeY] at hr ⊢
  split at hr
  ·cases hr
  ·rename_i hn
   have:=ih _ _ hr
   rw [this]
   split
   ·rename_i l st1 p1 h1
    cases h1
    exact absurd hr (hn _ _ _)
   ·rfl
 | _=>intro st r hr; simp only [evCodeY] at hr ⊢; exact hr
theorem runLoopY_mono (h:Le S S') {R:Rnd} {f:FuncId} {c:Code} {st:St} {r:Exit × St × Option Code} (hr:runLoopY C S R f c st=some r):runLoopY C S' R f c st=some r:=by
 unfold runLoopY at hr ⊢
 split at hr
 ·rename_i st1 h1
  rw [evCodeY_mono h _ _ _ h1]
  try simp only []
  split at hr
  ·exact h.loopY _ _ _ _ _ hr
  ·cases hr
 ·rename_i st1 p1 h1
  rw [evCodeY_mono h _ _ _ h1]
  try simp only []
  split at hr
  ·rename_i st2 h2
   obtain ⟨e,st3,h3,rfl⟩:=withP_some hr
   simp only [h.loop _ _ _ _ h3]; rfl
  ·cases hr
 ·rename_i hn1 hn2
  have:=evCodeY_mono h _ _ _ hr
  rw [this]
  split
  ·rename_i st1 h1
   cases h1
   exact absurd hr (hn1 _)
  ·rename_i st1 p1 h1
   cases h1
   exact absurd hr (hn2 _ _)
  ·rfl
theorem runIter_mono (h:Le S S') {R:Rnd} {K:FuncId} {args:List D} {objs:List (Nat × Ob)} {nxt:Nat} {r:List (Nat × Ob) × Nat × Option Code} (hr:runIter C S R K args objs nxt=some r):runIter C S' R K args objs nxt=some r:=by
 unfold runIter at hr ⊢
 split at hr
 ·rename_i fn hfn
  split at hr
  ·rename_i c hc
   split at hr
   ·rename_i st' p' hev; rw [evCodeY_mono h _ _ _ hev]; exact hr
   ·rename_i st' p' hev; rw [evCodeY_mono h _ _ _ hev]; exact hr
   ·cases hr
  ·cases hr
 ·cases hr
theorem runFn_mono (h:Le S S') {K:FuncId} {args:List D} {objs:List (Nat × Ob)} {nxt:Nat} {r:D × List (Nat × Ob) × Nat} (hr:runFn C S K args objs nxt=some r):runFn C S' K args objs nxt=some r:=by
 unfold runFn at hr ⊢
 split at hr
 ·rename_i fn hfn
  split at hr
  ·rename_i c hc
   split at hr
   ·rename_i st' hev; rw [evCode_mono h _ _ _ hev]; exact hr
   ·rename_i st' hev; rw [evCode_mono h _ _ _ hev]; exact hr
   ·cases hr
  ·cases hr
 ·cases hr
theorem runPure_mono (h:Le S S') {K:FuncId} {args:List D} {d:D} (hr:runPure C S K args=some d):runPure C S' K args=some d:=by
 unfold runPure at hr ⊢
 split at hr
 ·exact hr
 ·split at hr
  ·rename_i d0 objs n hrun
   rw [runFn_mono h hrun]; exact hr
  ·cases hr
theorem runInl_mono (h:Le S S') {K:FuncId} {args:List D} {objs:List (Nat × Ob)} {nxt:Nat} {r:D × List (Nat × Ob) × Nat} (hr:runInl C S K args objs nxt=some r):runInl C S' K args objs nxt=some r:=by
 unfold runInl at hr ⊢
 split at hr
 ·exact hr
 ·exact runFn_mono h hr
theorem runLoop_mono (h:Le S S') {f:FuncId} {c:Code} {st:St} {r:Exit × St} (hr:runLoop C S f c st=some r):runLoop C S' f c st=some r:=by
 unfold runLoop at hr ⊢
 split at hr
 ·rename_i st1 h1
  rw [evCode_mono h _ _ _ h1]
  try simp only []
  split at hr
  ·exact h.loop _ _ _ _ hr
  ·cases hr
 ·rename_i hn
  have:=evCode_mono h _ _ _ hr
  rw [this]
  split
  ·rename_i st1 h1
   cases h1
   exact absurd hr (hn _)
  ·rfl
theorem sem_succ:∀ n,Le (sem C n) (sem C (n+1))
 | 0=>⟨fun _ _ _ h=>by simp [sem] at h,fun _ _ _ _ _ h=>by simp [sem] at h,fun _ _ _ _ h=>by simp [sem] at h,fun _ _ _ _ _ h=>by simp [sem] at h,fun _ _ _ _ _ _ h=>by simp [sem] at h⟩
 | n+1=>by
  have ih:=sem_succ n
  exact ⟨fun _ _ _ h=>runPure_mono ih h,fun _ _ _ _ _ h=>runInl_mono ih h,fun _ _ _ _ h=>runLoop_mono ih h,fun _ _ _ _ _ h=>runLoopY_mono ih h,fun _ _ _ _ _ _ h=>runIter_mono ih h⟩
theorem sem_le {n k:Nat} (h:n≤k):Le (sem C n) (sem C k):=by
 induction h with
 | refl=>exact Le.refl _
 | step _ ih=>exact ih.trans (sem_succ _)

open Classical in
noncomputable def anyOf {α:Type} (f:Nat→Option α):Option α:=if h:∃ x n,f n=some x then some (Classical.choose h) else none
theorem anyOf_some {α:Type} {f:Nat→Option α} (hm:∀ n k x,n≤k→f n=some x→f k=some x) {x:α}:anyOf f=some x↔∃ n,f n=some x:=by
 unfold anyOf
 constructor
 ·intro h
  split at h
  ·rename_i hx
   cases h
   exact Classical.choose_spec hx
  ·cases h
 ·rintro ⟨n,hn⟩
  have hx:∃ x n,f n=some x:=⟨x,n,hn⟩
  rw [dif_pos hx]
  obtain ⟨k,hk⟩:=Classical.choose_spec hx
  have h1:=hm n (max n k) x (Nat.le_max_left _ _) hn
  have h2:=hm k (max n k) _ (Nat.le_max_right _ _) hk
  rw [h1] at h2
  exact h2.symm
noncomputable def lim (C:Cfg):Sm:=⟨fun K args=>anyOf fun n=>(sem C n).pure K args,fun K args objs nxt=>anyOf fun n=>(sem C n).inl K args objs nxt,fun f c st=>anyOf fun n=>(sem C n).loop f c st,fun R f c st=>anyOf fun n=>(sem C n).loopY R f c st,fun R K args objs nxt=>anyOf fun n=>(sem C n).iter R K args objs nxt⟩
theorem lim_pure {K:FuncId} {args:List D} {d:D}:(lim C).pure K args=some d↔∃ n,(sem C n).pure K args=some d:=anyOf_some fun _ _ _ h hx=>(sem_le h).pure _ _ _ hx
theorem lim_inl {K:FuncId} {args:List D} {objs:List (Nat × Ob)} {nxt:Nat} {r:D × List (Nat × Ob) × Nat}:(lim C).inl K args objs nxt=some r↔∃ n,(sem C n).inl K args objs nxt=some r:=anyOf_some fun _ _ _ h hx=>(sem_le h).inl _ _ _ _ _ hx
theorem lim_loop {f:FuncId} {c:Code} {st:St} {r:Exit × St}:(lim C).loop f c st=some r↔∃ n,(sem C n).loop f c st=some r:=anyOf_some fun _ _ _ h hx=>(sem_le h).loop _ _ _ _ hx

theorem lim_iter {R:Rnd} {K:FuncId} {args:List D} {objs:List (Nat × Ob)} {nxt:Nat} {r:List (Nat × Ob) × Nat × Option Code}:(lim C).iter R K args objs nxt=some r↔∃ n,(sem C n).iter R K args objs nxt=some r:=anyOf_some fun _ _ _ h hx=>(sem_le h).iter _ _ _ _ _ _ hx

theorem callD_cont {gT:Nat→D} {objs:List (Nat × Ob)} {nxt:Nat} {c:Call} {r:Out} (hr:callD C (lim C) gT objs nxt c=some r):∃ n,callD C (sem C n) gT objs nxt c=some r:=by
 unfold callD at hr ⊢
 split at hr
 ·rename_i b hb; exact ⟨0,hr⟩
 ·rename_i f hf
  try simp only [hf]
  split at hr
  ·rename_i g first captured hg
   try simp only [hg]
   split at hr
   ·try simp only []
    unfold callK at hr ⊢
    split at hr
    ·rename_i fn hfn
     try simp only [hfn]
     split at hr
     ·rename_i hi
      try simp only [if_pos hi]
      unfold callInl at hr ⊢
      split at hr
      ·rename_i l hl
       try simp only [hl]
       split at hr
       ·rename_i ids hids
        try simp only [hids]
        cases hb:allBelow nxt ids with
        | false=>rw [hb] at hr; cases hr
        | true =>
         rw [hb] at hr
         simp only [cond_true] at hr ⊢
         split at hr
         ·rename_i d objs' nxt' hinl
          obtain ⟨n,hn⟩:=lim_inl.1 hinl
          exact ⟨n,by rw [hn]; exact hr⟩
         ·cases hr
       ·cases hr
      ·cases hr
     ·rename_i hi
      try simp only [if_neg hi]
      unfold callPure at hr ⊢
      split at hr
      ·rename_i args' ids hs
       try simp only [hs]
       split at hr
       ·rename_i d hd
        obtain ⟨n,hn⟩:=lim_pure.1 hd
        exact ⟨n,by rw [hn]; exact hr⟩
       ·cases hr
      ·cases hr
    ·cases hr
   ·cases hr
  ·cases hr
 ·cases hr
theorem evOp_cont {gT:Nat→D} {objs:List (Nat × Ob)} {nxt:Nat} {o:Oper} {r:Out} (hr:evOp C (lim C) gT objs nxt o=some r):∃ n,evOp C (sem C n) gT objs nxt o=some r:=by
 unfold evOp at hr ⊢
 split at hr
 all_goals first | exact callD_cont hr | exact ⟨0,hr⟩
theorem evOps_cont {ops:Array Oper}:∀ (l:List Oper) (st st':St),evOps C (lim C) ops l st=some st'→∃ n,evOps C (sem C n) ops l st=some st'
 | [],_,_,hr=>⟨0,hr⟩
 | o::l,st,st',hr=>by
  simp only [evOps] at hr ⊢
  split at hr
  ·rename_i hw
   try simp only [hw]
   split at hr
   ·rename_i r hop
    obtain ⟨n,hn⟩:=evOp_cont hop
    obtain ⟨k,hk⟩:=evOps_cont l _ _ hr
    refine ⟨max n k,?_⟩
    rw [evOp_mono (sem_le (Nat.le_max_left n k)) hn]
    exact evOps_mono (sem_le (Nat.le_max_right n k)) _ _ _ hk
   ·cases hr
  ·rename_i hw
   try simp only [hw]
   exact evOps_cont l _ _ hr
  ·cases hr
theorem evOpsT_cont {ops:Array Oper}:∀ (l:List Oper) (st:St) (r:St × Trace),evOpsT C (lim C) ops l st=some r→∃ n,evOpsT C (sem C n) ops l st=some r
 | [],_,_,hr=>⟨0,hr⟩
 | o::l,st,r,hr=>by
  simp only [evOpsT] at hr ⊢
  split at hr
  ·rename_i hw
   try simp only [hw]
   split at hr
   ·rename_i r1 hop
    split at hr
    ·rename_i h1
     obtain ⟨n,hn⟩:=evOp_cont hop
     obtain ⟨k,hk⟩:=evOpsT_cont l _ _ h1
     refine ⟨max n k,?_⟩
     rw [evOp_mono (sem_le (Nat.le_max_left n k)) hn]
     try simp only []
     rw [evOpsT_mono (sem_le (Nat.le_max_right n k)) _ _ _ hk]
     exact hr
    ·cases hr
   ·cases hr
  ·rename_i hw
   try simp only [hw]
   split at hr
   ·rename_i h1
    obtain ⟨k,hk⟩:=evOpsT_cont l _ _ h1
    exact ⟨k,by rw [hk]; exact hr⟩
   ·cases hr
  ·cases hr
theorem evCode_cont {f:FuncId}:∀ (c:Code) (st:St) (r:Exit × St),yo C (lim C) f c st=some r→∃ n,yo C (sem C n) f c st=some r:=by
 intro c
 induction c with
 | region id ops draw =>
  intro st r hr
  simp only [yo] at hr ⊢
  split at hr
  ·rename_i hd
   try simp only [if_pos hd]
   split at hr
   ·rename_i h1
    obtain ⟨n,hn⟩:=evOpsT_cont _ _ _ h1
    exact ⟨n,by rw [hn]; exact hr⟩
   ·cases hr
  ·rename_i hd
   try simp only [if_neg hd]
   split at hr
   ·rename_i h1
    obtain ⟨n,hn⟩:=evOps_cont _ _ _ h1
    exact ⟨n,by rw [hn]; exact hr⟩
   ·cases hr
 | seq x y ihx ihy =>
  intro st r hr
  simp only [yo] at hr ⊢
  split at hr
  ·rename_i st1 h1
   obtain ⟨n,hn⟩:=ihx _ _ h1
   obtain ⟨k,hk⟩:=ihy _ _ hr
   refine ⟨max n k,?_⟩
   rw [evCode_mono (sem_le (Nat.le_max_left n k)) _ _ _ hn]
   exact evCode_mono (sem_le (Nat.le_max_right n k)) _ _ _ hk
  ·rename_i hn
   obtain ⟨n,h1⟩:=ihx _ _ hr
   refine ⟨n,?_⟩
   rw [h1]
   split
   ·rename_i st1 h2
    cases h2
    exact absurd hr (hn _)
   ·rfl
 | cond c x y ihx ihy =>
  intro st r hr
  simp only [yo] at hr ⊢
  split at hr
  ·rename_i t ht
   try simp only [ht]
   split at hr
   ·rename_i h1; simp only [if_pos h1]; exact ihx _ _ hr
   ·rename_i h1; simp only [if_neg h1]; exact ihy _ _ hr
  ·cases hr
 | block id x ih =>
  intro st r hr
  simp only [yo] at hr ⊢
  split at hr
  ·rename_i id' st1 h1
   obtain ⟨n,hn⟩:=ih _ _ h1
   exact ⟨n,by rw [hn]; exact hr⟩
  ·rename_i hn
   obtain ⟨n,h1⟩:=ih _ _ hr
   refine ⟨n,?_⟩
   rw [h1]
   split
   ·rename_i id' st1 h2
    cases h2
    exact absurd hr (hn _ _)
   ·rfl
 | loop x ih =>
  intro st r hr
  simp only [yo] at hr ⊢
  split at hr
  ·rename_i st1 h1
   exact lim_loop.1 hr
  ·cases hr
 | scope x ih =>
  intro st r hr
  simp only [yo] at hr ⊢
  split at hr
  ·cases hr
  ·rename_i hn
   obtain ⟨n,h1⟩:=ih _ _ hr
   refine ⟨n,?_⟩
   rw [h1]
   split
   ·rename_i l st1 h2
    cases h2
    exact absurd hr (hn _ _)
   ·rfl
 | rangeFunc g ps x y _ _ =>
  intro st r hr
  simp only [yo] at hr ⊢
  split at hr
  ·rename_i hnr
   simp only [if_pos hnr]
   split at hr
   ·rename_i K first captured hg
    try simp only [hg]
    split at hr
    ·rename_i fn hfn
     try simp only [hfn]
     split at hr
     ·rename_i objs' nxt' p hit
      obtain ⟨n,hn⟩:=lim_iter.1 hit
      exact ⟨n,by rw [hn]; exact hr⟩
     ·cases hr
    ·cases hr
   ·cases hr
  ·cases hr
 | _=>intro st r hr; exact ⟨0,by simp only [yo] at hr ⊢; exact hr⟩
theorem runFn_cont {K:FuncId} {args:List D} {objs:List (Nat × Ob)} {nxt:Nat} {r:D × List (Nat × Ob) × Nat} (hr:runFn C (lim C) K args objs nxt=some r):∃ n,runFn C (sem C n) K args objs nxt=some r:=by
 unfold runFn at hr ⊢
 split at hr
 ·rename_i fn hfn
  split at hr
  ·rename_i c hc
   split at hr
   ·rename_i st' hev; obtain ⟨n,hn⟩:=evCode_cont _ _ _ hev; exact ⟨n,by rw [hn]; exact hr⟩
   ·rename_i st' hev; obtain ⟨n,hn⟩:=evCode_cont _ _ _ hev; exact ⟨n,by rw [hn]; exact hr⟩
   ·cases hr
  ·cases hr
 ·cases hr
theorem pure_of {K:FuncId} {args:List D} {d:D} (hr:runPure C (lim C) K args=some d):(lim C).pure K args=some d:=by
 refine lim_pure.2 ?_
 unfold runPure at hr
 split at hr
 ·rename_i g hg
  exact ⟨1,by simp only [sem,runPure,hg]; exact hr⟩
 ·rename_i hg
  split at hr
  ·rename_i d0 objs n hrun
   obtain ⟨n,hn⟩:=runFn_cont hrun
   exact ⟨n+1,by simp only [sem,runPure,hg,hn]; exact hr⟩
  ·cases hr
theorem inl_of {K:FuncId} {args:List D} {objs:List (Nat × Ob)} {nxt:Nat} {r:D × List (Nat × Ob) × Nat} (hr:runInl C (lim C) K args objs nxt=some r):(lim C).inl K args objs nxt=some r:=by
 refine lim_inl.2 ?_
 unfold runInl at hr
 split at hr
 ·rename_i g hg
  exact ⟨1,by simp only [sem,runInl,hg]; exact hr⟩
 ·rename_i hg
  obtain ⟨n,hn⟩:=runFn_cont hr
  exact ⟨n+1,by simp only [sem,runInl,hg,hn]⟩
theorem loop_of {f:FuncId} {c:Code} {st:St} {r:Exit × St} (hr:runLoop C (lim C) f c st=some r):(lim C).loop f c st=some r:=by
 refine lim_loop.2 ?_
 unfold runLoop at hr
 split at hr
 ·rename_i st1 h1
  split at hr
  ·rename_i st2 h2
   obtain ⟨n,hn⟩:=evCode_cont _ _ _ h1
   obtain ⟨k,hk⟩:=lim_loop.1 hr
   refine ⟨max n k+1,?_⟩
   simp only [sem,runLoop]
   rw [evCode_mono (sem_le (Nat.le_max_left n k)) _ _ _ hn]
   simp only [h2]
   exact (sem_le (Nat.le_max_right n k)).loop _ _ _ _ hk
  ·cases hr
 ·rename_i hn
  obtain ⟨n,h1⟩:=evCode_cont _ _ _ hr
  refine ⟨n+1,?_⟩
  simp only [sem,runLoop,h1]
  split
  ·rename_i st1 h2
   cases h2
   exact absurd hr (hn _)
  ·rfl
theorem lim_sound (hC:CfgOK C) (hX:ExtOK C) {K:FuncId} {args:List D} {d:D} (h:(lim C).pure K args=some d):PureOK C K args d:=by
 obtain ⟨n,hn⟩:=lim_pure.1 h
 exact (sem_sound hC hX n).pure K args d hn
end
end Go.VS

namespace Go.VS
open Go Go.Proofs
noncomputable def ty2:Ty:=⟨(.int .i64),1,8,(.int .i64 0)⟩
theorem ty2_ok:tyOf Tryz.prog 2=some ty2:=by kernel_rfl
noncomputable def ty3:Ty:=⟨(.int .i64),1,8,(.int .i64 0)⟩
theorem ty3_ok:tyOf Tryz.prog 3=some ty3:=by kernel_rfl
noncomputable def ty4:Ty:=⟨.bool,1,1,(.bool false)⟩
theorem ty4_ok:tyOf Tryz.prog 4=some ty4:=by kernel_rfl
noncomputable def ty5:Ty:=⟨(.int .u8),1,1,(.int .u8 0)⟩
theorem ty5_ok:tyOf Tryz.prog 5=some ty5:=by kernel_rfl
noncomputable def ty9:Ty:=⟨.str,1,16,(.string ⟨#[]⟩)⟩
theorem ty9_ok:tyOf Tryz.prog 9=some ty9:=by kernel_rfl
noncomputable def ty21:Ty:=⟨(.int .i32),1,4,(.int .i32 0)⟩
theorem ty21_ok:tyOf Tryz.prog 21=some ty21:=by kernel_rfl
noncomputable def ty22:Ty:=⟨(.slice 25),1,24,(.slice none 0 0)⟩
theorem ty22_ok:tyOf Tryz.prog 22=some ty22:=by kernel_rfl
noncomputable def ty23:Ty:=⟨(.slice 25),1,24,(.slice none 0 0)⟩
theorem ty23_ok:tyOf Tryz.prog 23=some ty23:=by kernel_rfl
noncomputable def yl:Ty:=⟨(.struct [(3,0),(3,1)]),2,16,(.agg #[(.int .i64 0),(.int .i64 0)])⟩
theorem ty25_ok:tyOf Tryz.prog 25=some yl:=by kernel_rfl
noncomputable def ty27:Ty:=⟨(.int .i64),1,8,(.int .i64 0)⟩
theorem ty27_ok:tyOf Tryz.prog 27=some ty27:=by kernel_rfl
noncomputable def ty37:Ty:=⟨(.slice 3),1,24,(.slice none 0 0)⟩
theorem ty37_ok:tyOf Tryz.prog 37=some ty37:=by kernel_rfl
noncomputable def ty44:Ty:=⟨(.ptr 46),1,8,(.pointer none)⟩
theorem ty44_ok:tyOf Tryz.prog 44=some ty44:=by kernel_rfl
noncomputable def ty46:Ty:=⟨(.struct [(4,0),(4,1)]),2,2,(.agg #[(.bool false),(.bool false)])⟩
theorem ty46_ok:tyOf Tryz.prog 46=some ty46:=by kernel_rfl
noncomputable def ty74:Ty:=⟨.func,1,8,.nilFunc⟩
theorem ty74_ok:tyOf Tryz.prog 74=some ty74:=by kernel_rfl
noncomputable def ty86:Ty:=⟨.func,1,8,.nilFunc⟩
theorem ty86_ok:tyOf Tryz.prog 86=some ty86:=by kernel_rfl
noncomputable def ty89:Ty:=⟨.func,1,8,.nilFunc⟩
theorem ty89_ok:tyOf Tryz.prog 89=some ty89:=by kernel_rfl
noncomputable def ty91:Ty:=⟨(.slice 9),1,24,(.slice none 0 0)⟩
theorem ty91_ok:tyOf Tryz.prog 91=some ty91:=by kernel_rfl
noncomputable def ty98:Ty:=⟨.iface,1,16,.nilIface⟩
theorem ty98_ok:tyOf Tryz.prog 98=some ty98:=by kernel_rfl
noncomputable def ty102:Ty:=⟨.func,1,8,.nilFunc⟩
theorem ty102_ok:tyOf Tryz.prog 102=some ty102:=by kernel_rfl
noncomputable def ty103:Ty:=⟨(.slice 4),1,24,(.slice none 0 0)⟩
theorem ty103_ok:tyOf Tryz.prog 103=some ty103:=by kernel_rfl
noncomputable def ty104:Ty:=⟨(.slice 23),1,24,(.slice none 0 0)⟩
theorem ty104_ok:tyOf Tryz.prog 104=some ty104:=by kernel_rfl
noncomputable def ty106:Ty:=⟨(.slice 22),1,24,(.slice none 0 0)⟩
theorem ty106_ok:tyOf Tryz.prog 106=some ty106:=by kernel_rfl
noncomputable def ty108:Ty:=⟨(.ptr 111),1,8,(.pointer none)⟩
theorem ty108_ok:tyOf Tryz.prog 108=some ty108:=by kernel_rfl
noncomputable def ty109:Ty:=⟨(.slice 5),1,24,(.slice none 0 0)⟩
theorem ty109_ok:tyOf Tryz.prog 109=some ty109:=by kernel_rfl
noncomputable def ty111:Ty:=⟨(.struct [(108,0),(109,1)]),2,32,(.agg #[(.pointer none),(.slice none 0 0)])⟩
theorem ty111_ok:tyOf Tryz.prog 111=some ty111:=by kernel_rfl
noncomputable def ty118:Ty:=⟨(.int .u64),1,8,(.int .u64 0)⟩
theorem ty118_ok:tyOf Tryz.prog 118=some ty118:=by kernel_rfl
noncomputable def ty120:Ty:=⟨(.ptr 5),1,8,(.pointer none)⟩
theorem ty120_ok:tyOf Tryz.prog 120=some ty120:=by kernel_rfl
noncomputable def ty123:Ty:=⟨(.int .i64),1,8,(.int .i64 0)⟩
theorem ty123_ok:tyOf Tryz.prog 123=some ty123:=by kernel_rfl
noncomputable def ty126:Ty:=⟨(.ptr 157),1,8,(.pointer none)⟩
theorem ty126_ok:tyOf Tryz.prog 126=some ty126:=by kernel_rfl
noncomputable def ty130:Ty:=⟨(.int .i64),1,8,(.int .i64 0)⟩
theorem ty130_ok:tyOf Tryz.prog 130=some ty130:=by kernel_rfl
noncomputable def ty138:Ty:=⟨(.int .u32),1,4,(.int .u32 0)⟩
theorem ty138_ok:tyOf Tryz.prog 138=some ty138:=by kernel_rfl
noncomputable def ty140:Ty:=⟨(.int .u64),1,8,(.int .u64 0)⟩
theorem ty140_ok:tyOf Tryz.prog 140=some ty140:=by kernel_rfl
noncomputable def ty141:Ty:=⟨(.arr 24 5),24,24,(.agg #[(.int .u8 0),(.int .u8 0),(.int .u8 0),(.int .u8 0),(.int .u8 0),(.int .u8 0),(.int .u8 0),(.int .u8 0),(.int .u8 0),(.int .u8 0),(.int .u8 0),(.int .u8 0),(.int .u8 0),(.int .u8 0),(.int .u8 0),(.int .u8 0),(.int .u8 0),(.int .u8 0),(.int .u8 0),(.int .u8 0),(.int .u8 0),(.int .u8 0),(.int .u8 0),(.int .u8 0)])⟩
theorem ty141_ok:tyOf Tryz.prog 141=some ty141:=by kernel_rfl
noncomputable def ty145:Ty:=⟨.other,1,8,(.pointer none)⟩
theorem ty145_ok:tyOf Tryz.prog 145=some ty145:=by kernel_rfl
noncomputable def ty157:Ty:=⟨(.struct [(9,0),(9,1),(98,2)]),3,48,(.agg #[(.string ⟨#[]⟩),(.string ⟨#[]⟩),.nilIface])⟩
theorem ty157_ok:tyOf Tryz.prog 157=some ty157:=by kernel_rfl
noncomputable def ty159:Ty:=⟨(.int .u64),1,8,(.int .u64 0)⟩
theorem ty159_ok:tyOf Tryz.prog 159=some ty159:=by kernel_rfl
noncomputable def ty163:Ty:=⟨(.ptr 3),1,8,(.pointer none)⟩
theorem ty163_ok:tyOf Tryz.prog 163=some ty163:=by kernel_rfl
noncomputable def ty166:Ty:=⟨(.arr 20 140),20,160,(.agg #[(.int .u64 0),(.int .u64 0),(.int .u64 0),(.int .u64 0),(.int .u64 0),(.int .u64 0),(.int .u64 0),(.int .u64 0),(.int .u64 0),(.int .u64 0),(.int .u64 0),(.int .u64 0),(.int .u64 0),(.int .u64 0),(.int .u64 0),(.int .u64 0),(.int .u64 0),(.int .u64 0),(.int .u64 0),(.int .u64 0)])⟩
theorem ty166_ok:tyOf Tryz.prog 166=some ty166:=by kernel_rfl
noncomputable def ty167:Ty:=⟨(.arr 65 5),65,65,(.agg #[(.int .u8 0),(.int .u8 0),(.int .u8 0),(.int .u8 0),(.int .u8 0),(.int .u8 0),(.int .u8 0),(.int .u8 0),(.int .u8 0),(.int .u8 0),(.int .u8 0),(.int .u8 0),(.int .u8 0),(.int .u8 0),(.int .u8 0),(.int .u8 0),(.int .u8 0),(.int .u8 0),(.int .u8 0),(.int .u8 0),(.int .u8 0),(.int .u8 0),(.int .u8 0),(.int .u8 0),(.int .u8 0),(.int .u8 0),(.int .u8 0),(.int .u8 0),(.int .u8 0),(.int .u8 0),(.int .u8 0),(.int .u8 0),(.int .u8 0),(.int .u8 0),(.int .u8 0),(.int .u8 0),(.int .u8 0),(.int .u8 0),(.int .u8 0),(.int .u8 0),(.int .u8 0),(.int .u8 0),(.int .u8 0),(.int .u8 0),(.int .u8 0),(.int .u8 0),(.int .u8 0),(.int .u8 0),(.int .u8 0),(.int .u8 0),(.int .u8 0),(.int .u8 0),(.int .u8 0),(.int .u8 0),(.int .u8 0),(.int .u8 0),(.int .u8 0),(.int .u8 0),(.int .u8 0),(.int .u8 0),(.int .u8 0),(.int .u8 0),(.int .u8 0),(.int .u8 0),(.int .u8 0)])⟩
theorem ty167_ok:tyOf Tryz.prog 167=some ty167:=by kernel_rfl
noncomputable def ty172:Ty:=⟨(.ptr 174),1,8,(.pointer none)⟩
theorem ty172_ok:tyOf Tryz.prog 172=some ty172:=by kernel_rfl
noncomputable def ty174:Ty:=⟨(.struct [(9,0)]),1,16,(.agg #[(.string ⟨#[]⟩)])⟩
theorem ty174_ok:tyOf Tryz.prog 174=some ty174:=by kernel_rfl
noncomputable def ty178:Ty:=⟨(.arr 256 5),256,256,(.agg #[(.int .u8 0),(.int .u8 0),(.int .u8 0),(.int .u8 0),(.int .u8 0),(.int .u8 0),(.int .u8 0),(.int .u8 0),(.int .u8 0),(.int .u8 0),(.int .u8 0),(.int .u8 0),(.int .u8 0),(.int .u8 0),(.int .u8 0),(.int .u8 0),(.int .u8 0),(.int .u8 0),(.int .u8 0),(.int .u8 0),(.int .u8 0),(.int .u8 0),(.int .u8 0),(.int .u8 0),(.int .u8 0),(.int .u8 0),(.int .u8 0),(.int .u8 0),(.int .u8 0),(.int .u8 0),(.int .u8 0),(.int .u8 0),(.int .u8 0),(.int .u8 0),(.int .u8 0),(.int .u8 0),(.int .u8 0),(.int .u8 0),(.int .u8 0),(.int .u8 0),(.int .u8 0),(.int .u8 0),(.int .u8 0),(.int .u8 0),(.int .u8 0),(.int .u8 0),(.int .u8 0),(.int .u8 0),(.int .u8 0),(.int .u8 0),(.int .u8 0),(.int .u8 0),(.int .u8 0),(.int .u8 0),(.int .u8 0),(.int .u8 0),(.int .u8 0),(.int .u8 0),(.int .u8 0),(.int .u8 0),(.int .u8 0),(.int .u8 0),(.int .u8 0),(.int .u8 0),(.int .u8 0),(.int .u8 0),(.int .u8 0),(.int .u8 0),(.int .u8 0),(.int .u8 0),(.int .u8 0),(.int .u8 0),(.int .u8 0),(.int .u8 0),(.int .u8 0),(.int .u8 0),(.int .u8 0),(.int .u8 0),(.int .u8 0),(.int .u8 0),(.int .u8 0),(.int .u8 0),(.int .u8 0),(.int .u8 0),(.int .u8 0),(.int .u8 0),(.int .u8 0),(.int .u8 0),(.int .u8 0),(.int .u8 0),(.int .u8 0),(.int .u8 0),(.int .u8 0),(.int .u8 0),(.int .u8 0),(.int .u8 0),(.int .u8 0),(.int .u8 0),(.int .u8 0),(.int .u8 0),(.int .u8 0),(.int .u8 0),(.int .u8 0),(.int .u8 0),(.int .u8 0),(.int .u8 0),(.int .u8 0),(.int .u8 0),(.int .u8 0),(.int .u8 0),(.int .u8 0),(.int .u8 0),(.int .u8 0),(.int .u8 0),(.int .u8 0),(.int .u8 0),(.int .u8 0),(.int .u8 0),(.int .u8 0),(.int .u8 0),(.int .u8 0),(.int .u8 0),(.int .u8 0),(.int .u8 0),(.int .u8 0),(.int .u8 0),(.int .u8 0),(.int .u8 0),(.int .u8 0),(.int .u8 0),(.int .u8 0),(.int .u8 0),(.int .u8 0),(.int .u8 0),(.int .u8 0),(.int .u8 0),(.int .u8 0),(.int .u8 0),(.int .u8 0),(.int .u8 0),(.int .u8 0),(.int .u8 0),(.int .u8 0),(.int .u8 0),(.int .u8 0),(.int .u8 0),(.int .u8 0),(.int .u8 0),(.int .u8 0),(.int .u8 0),(.int .u8 0),(.int .u8 0),(.int .u8 0),(.int .u8 0),(.int .u8 0),(.int .u8 0),(.int .u8 0),(.int .u8 0),(.int .u8 0),(.int .u8 0),(.int .u8 0),(.int .u8 0),(.int .u8 0),(.int .u8 0),(.int .u8 0),(.int .u8 0),(.int .u8 0),(.int .u8 0),(.int .u8 0),(.int .u8 0),(.int .u8 0),(.int .u8 0),(.int .u8 0),(.int .u8 0),(.int .u8 0),(.int .u8 0),(.int .u8 0),(.int .u8 0),(.int .u8 0),(.int .u8 0),(.int .u8 0),(.int .u8 0),(.int .u8 0),(.int .u8 0),(.int .u8 0),(.int .u8 0),(.int .u8 0),(.int .u8 0),(.int .u8 0),(.int .u8 0),(.int .u8 0),(.int .u8 0),(.int .u8 0),(.int .u8 0),(.int .u8 0),(.int .u8 0),(.int .u8 0),(.int .u8 0),(.int .u8 0),(.int .u8 0),(.int .u8 0),(.int .u8 0),(.int .u8 0),(.int .u8 0),(.int .u8 0),(.int .u8 0),(.int .u8 0),(.int .u8 0),(.int .u8 0),(.int .u8 0),(.int .u8 0),(.int .u8 0),(.int .u8 0),(.int .u8 0),(.int .u8 0),(.int .u8 0),(.int .u8 0),(.int .u8 0),(.int .u8 0),(.int .u8 0),(.int .u8 0),(.int .u8 0),(.int .u8 0),(.int .u8 0),(.int .u8 0),(.int .u8 0),(.int .u8 0),(.int .u8 0),(.int .u8 0),(.int .u8 0),(.int .u8 0),(.int .u8 0),(.int .u8 0),(.int .u8 0),(.int .u8 0),(.int .u8 0),(.int .u8 0),(.int .u8 0),(.int .u8 0),(.int .u8 0),(.int .u8 0),(.int .u8 0),(.int .u8 0),(.int .u8 0),(.int .u8 0),(.int .u8 0),(.int .u8 0),(.int .u8 0),(.int .u8 0),(.int .u8 0),(.int .u8 0),(.int .u8 0),(.int .u8 0),(.int .u8 0),(.int .u8 0),(.int .u8 0)])⟩
theorem ty178_ok:tyOf Tryz.prog 178=some ty178:=by kernel_rfl
noncomputable def ty180:Ty:=⟨(.struct [(5,0),(5,1)]),2,2,(.agg #[(.int .u8 0),(.int .u8 0)])⟩
theorem ty180_ok:tyOf Tryz.prog 180=some ty180:=by kernel_rfl
noncomputable def ty181:Ty:=⟨(.arr 16 180),32,32,(.agg #[(.int .u8 0),(.int .u8 0),(.int .u8 0),(.int .u8 0),(.int .u8 0),(.int .u8 0),(.int .u8 0),(.int .u8 0),(.int .u8 0),(.int .u8 0),(.int .u8 0),(.int .u8 0),(.int .u8 0),(.int .u8 0),(.int .u8 0),(.int .u8 0),(.int .u8 0),(.int .u8 0),(.int .u8 0),(.int .u8 0),(.int .u8 0),(.int .u8 0),(.int .u8 0),(.int .u8 0),(.int .u8 0),(.int .u8 0),(.int .u8 0),(.int .u8 0),(.int .u8 0),(.int .u8 0),(.int .u8 0),(.int .u8 0)])⟩
theorem ty181_ok:tyOf Tryz.prog 181=some ty181:=by kernel_rfl
noncomputable def ty182:Ty:=⟨(.arr 32 5),32,32,(.agg #[(.int .u8 0),(.int .u8 0),(.int .u8 0),(.int .u8 0),(.int .u8 0),(.int .u8 0),(.int .u8 0),(.int .u8 0),(.int .u8 0),(.int .u8 0),(.int .u8 0),(.int .u8 0),(.int .u8 0),(.int .u8 0),(.int .u8 0),(.int .u8 0),(.int .u8 0),(.int .u8 0),(.int .u8 0),(.int .u8 0),(.int .u8 0),(.int .u8 0),(.int .u8 0),(.int .u8 0),(.int .u8 0),(.int .u8 0),(.int .u8 0),(.int .u8 0),(.int .u8 0),(.int .u8 0),(.int .u8 0),(.int .u8 0)])⟩
theorem ty182_ok:tyOf Tryz.prog 182=some ty182:=by kernel_rfl
noncomputable def ty183:Ty:=⟨(.arr 64 5),64,64,(.agg #[(.int .u8 0),(.int .u8 0),(.int .u8 0),(.int .u8 0),(.int .u8 0),(.int .u8 0),(.int .u8 0),(.int .u8 0),(.int .u8 0),(.int .u8 0),(.int .u8 0),(.int .u8 0),(.int .u8 0),(.int .u8 0),(.int .u8 0),(.int .u8 0),(.int .u8 0),(.int .u8 0),(.int .u8 0),(.int .u8 0),(.int .u8 0),(.int .u8 0),(.int .u8 0),(.int .u8 0),(.int .u8 0),(.int .u8 0),(.int .u8 0),(.int .u8 0),(.int .u8 0),(.int .u8 0),(.int .u8 0),(.int .u8 0),(.int .u8 0),(.int .u8 0),(.int .u8 0),(.int .u8 0),(.int .u8 0),(.int .u8 0),(.int .u8 0),(.int .u8 0),(.int .u8 0),(.int .u8 0),(.int .u8 0),(.int .u8 0),(.int .u8 0),(.int .u8 0),(.int .u8 0),(.int .u8 0),(.int .u8 0),(.int .u8 0),(.int .u8 0),(.int .u8 0),(.int .u8 0),(.int .u8 0),(.int .u8 0),(.int .u8 0),(.int .u8 0),(.int .u8 0),(.int .u8 0),(.int .u8 0),(.int .u8 0),(.int .u8 0),(.int .u8 0),(.int .u8 0)])⟩
theorem ty183_ok:tyOf Tryz.prog 183=some ty183:=by kernel_rfl
noncomputable def tyTab:Tr Ty:=(.node (.node (.node (.node (.node (.node .nil 2 ty2 .nil) 3 ty3 .nil) 4 ty4 (.node (.node .nil 5 ty5 .nil) 9 ty9 .nil)) 21 ty21 (.node (.node (.node .nil 22 ty22 .nil) 23 ty23 .nil) 25 yl (.node (.node .nil 27 ty27 .nil) 37 ty37 .nil))) 44 ty44 (.node (.node (.node (.node .nil 46 ty46 .nil) 74 ty74 .nil) 86 ty86 (.node (.node .nil 89 ty89 .nil) 91 ty91 .nil)) 98 ty98 (.node (.node (.node .nil 102 ty102 .nil) 103 ty103 .nil) 104 ty104 (.node (.node .nil 106 ty106 .nil) 108 ty108 .nil)))) 109 ty109 (.node (.node (.node (.node (.node .nil 111 ty111 .nil) 118 ty118 .nil) 120 ty120 (.node (.node .nil 123 ty123 .nil) 126 ty126 .nil)) 130 ty130 (.node (.node (.node .nil 138 ty138 .nil) 140 ty140 .nil) 141 ty141 (.node (.node .nil 145 ty145 .nil) 157 ty157 .nil))) 159 ty159 (.node (.node (.node (.node .nil 163 ty163 .nil) 166 ty166 .nil) 167 ty167 (.node (.node .nil 172 ty172 .nil) 174 ty174 .nil)) 178 ty178 (.node (.node (.node .nil 180 ty180 .nil) 181 ty181 .nil) 182 ty182 (.node .nil 183 ty183 .nil)))))
noncomputable def fnTab:Tr Func:=(.node (.node (.node (.node (.node (.node (.node (.node .nil 2 Tryz.f2 .nil) 3 Tryz.f3 .nil) 4 Tryz.f4 (.node (.node .nil 5 Tryz.f5 .nil) 6 Tryz.f6 .nil)) 7 Tryz.f7 (.node (.node (.node .nil 8 Tryz.f8 .nil) 9 Tryz.f9 .nil) 10 Tryz.f10 (.node .nil 11 Tryz.f11 .nil))) 12 Tryz.f12 (.node (.node (.node (.node .nil 13 Tryz.f13 .nil) 14 Tryz.f14 .nil) 15 Tryz.f15 (.node (.node .nil 16 Tryz.f16 .nil) 17 Tryz.f17 .nil)) 18 Tryz.f18 (.node (.node (.node .nil 19 Tryz.f19 .nil) 20 Tryz.f20 .nil) 21 Tryz.f21 (.node .nil 22 Tryz.f22 .nil)))) 23 Tryz.f23 (.node (.node (.node (.node (.node .nil 24 Tryz.f24 .nil) 25 Tryz.f25 .nil) 26 Tryz.f26 (.node (.node .nil 27 Tryz.f27 .nil) 28 Tryz.f28 .nil)) 29 Tryz.f29 (.node (.node (.node .nil 30 Tryz.f30 .nil) 31 Tryz.f31 .nil) 32 Tryz.f32 (.node .nil 33 Tryz.f33 .nil))) 34 Tryz.f34 (.node (.node (.node (.node .nil 35 Tryz.f35 .nil) 36 Tryz.f36 .nil) 37 Tryz.f37 (.node .nil 38 Tryz.f38 .nil)) 39 Tryz.f39 (.node (.node (.node .nil 40 Tryz.f40 .nil) 41 Tryz.f41 .nil) 42 Tryz.f42 (.node .nil 43 Tryz.f43 .nil))))) 44 Tryz.f44 (.node (.node (.node (.node (.node (.node .nil 45 Tryz.f45 .nil) 46 Tryz.f46 .nil) 47 Tryz.f47 (.node (.node .nil 48 Tryz.f48 .nil) 49 Tryz.f49 .nil)) 50 Tryz.f50 (.node (.node (.node .nil 51 Tryz.f51 .nil) 52 Tryz.f52 .nil) 53 Tryz.f53 (.node .nil 54 Tryz.f54 .nil))) 55 Tryz.f55 (.node (.node (.node (.node .nil 56 Tryz.f56 .nil) 57 Tryz.f57 .nil) 58 Tryz.f58 (.node .nil 59 Tryz.f59 .nil)) 60 Tryz.f60 (.node (.node (.node .nil 61 Tryz.f61 .nil) 62 Tryz.f62 .nil) 63 Tryz.f63 (.node .nil 64 Tryz.f64 .nil)))) 65 Tryz.f65 (.node (.node (.node (.node (.node .nil 66 Tryz.f66 .nil) 67 Tryz.f67 .nil) 68 Tryz.f68 (.node (.node .nil 69 Tryz.f69 .nil) 70 Tryz.f70 .nil)) 71 Tryz.f71 (.node (.node (.node .nil 72 Tryz.f72 .nil) 73 Tryz.f73 .nil) 74 Tryz.f74 (.node .nil 75 Tryz.f75 .nil))) 76 Tryz.f76 (.node (.node (.node (.node .nil 77 Tryz.f77 .nil) 78 Tryz.f78 .nil) 79 Tryz.f79 (.node .nil 80 Tryz.f80 .nil)) 81 Tryz.f81 (.node (.node (.node .nil 82 Tryz.f82 .nil) 83 Tryz.f83 .nil) 84 Tryz.f84 (.node .nil 85 Tryz.f85 .nil)))))) 86 Tryz.f86 (.node (.node (.node (.node (.node (.node (.node .nil 87 Tryz.f87 .nil) 88 Tryz.f88 .nil) 89 Tryz.f89 (.node (.node .nil 90 Tryz.f90 .nil) 91 Tryz.f91 .nil)) 92 Tryz.f92 (.node (.node (.node .nil 93 Tryz.f93 .nil) 94 Tryz.f94 .nil) 95 Tryz.f95 (.node .nil 96 Tryz.f96 .nil))) 97 Tryz.f97 (.node (.node (.node (.node .nil 98 Tryz.f98 .nil) 99 Tryz.f99 .nil) 100 Tryz.f100 (.node (.node .nil 101 Tryz.f101 .nil) 102 Tryz.f102 .nil)) 103 Tryz.f103 (.node (.node (.node .nil 104 Tryz.f104 .nil) 105 Tryz.f105 .nil) 106 Tryz.f106 (.node .nil 107 Tryz.f107 .nil)))) 108 Tryz.f108 (.node (.node (.node (.node (.node .nil 109 Tryz.f109 .nil) 110 Tryz.f110 .nil) 111 Tryz.f111 (.node (.node .nil 112 Tryz.f112 .nil) 113 Tryz.f113 .nil)) 114 Tryz.f114 (.node (.node (.node .nil 115 Tryz.f115 .nil) 116 Tryz.f116 .nil) 117 Tryz.f117 (.node .nil 118 Tryz.f118 .nil))) 119 Tryz.f119 (.node (.node (.node (.node .nil 120 Tryz.f120 .nil) 121 Tryz.f121 .nil) 122 Tryz.f122 (.node .nil 123 Tryz.f123 .nil)) 124 Tryz.f124 (.node (.node (.node .nil 125 Tryz.f125 .nil) 126 Tryz.f126 .nil) 127 Tryz.f127 (.node .nil 128 Tryz.f128 .nil))))) 129 Tryz.f129 (.node (.node (.node (.node (.node (.node .nil 130 Tryz.f130 .nil) 131 Tryz.f131 .nil) 132 Tryz.f132 (.node (.node .nil 133 Tryz.f133 .nil) 134 Tryz.f134 .nil)) 135 Tryz.f135 (.node (.node (.node .nil 136 Tryz.f136 .nil) 137 Tryz.f137 .nil) 138 Tryz.f138 (.node .nil 139 Tryz.f139 .nil))) 140 Tryz.f140 (.node (.node (.node (.node .nil 141 Tryz.f141 .nil) 142 Tryz.f142 .nil) 143 Tryz.f143 (.node .nil 144 Tryz.f144 .nil)) 145 Tryz.f145 (.node (.node (.node .nil 148 Tryz.f148 .nil) 149 Tryz.f149 .nil) 151 Tryz.f151 (.node .nil 153 Tryz.f153 .nil)))) 154 Tryz.f154 (.node (.node (.node (.node (.node .nil 155 Tryz.f155 .nil) 156 Tryz.f156 .nil) 157 Tryz.f157 (.node (.node .nil 158 Tryz.f158 .nil) 159 Tryz.f159 .nil)) 160 Tryz.f160 (.node (.node (.node .nil 161 Tryz.f161 .nil) 162 Tryz.f162 .nil) 163 Tryz.f163 (.node .nil 164 Tryz.f164 .nil))) 165 Tryz.f165 (.node (.node (.node (.node .nil 166 Tryz.f166 .nil) 167 Tryz.f167 .nil) 169 Tryz.f169 (.node .nil 170 Tryz.f170 .nil)) 171 Tryz.f171 (.node (.node (.node .nil 172 Tryz.f172 .nil) 173 Tryz.f173 .nil) 174 Tryz.f174 (.node .nil 204 Tryz.f204 .nil)))))))
noncomputable def keepTab:Tr (Tr (List Nat)):=(.node (.node (.node (.node (.node (.node .nil 6 (.node (.node .nil 7 [0,1,2,7,34,35] .nil) 12 [0,1,2,7,9,10,34,35,46,47,48] .nil) .nil) 10 (.node .nil 12 [0,2,4,7,9,11,12] .nil) (.node .nil 13 (.node .nil 19 [0,10,11,75,76] .nil) .nil)) 18 (.node (.node .nil 7 [0,3,6,7] .nil) 15 [0,3,6,7,10,12] .nil) (.node (.node .nil 20 (.node (.node .nil 7 [0,3,6,7] .nil) 10 [0,3,6,7,8] .nil) .nil) 22 (.node (.node .nil 16 [1,5,9,11,12,13] .nil) 19 [1,5,9,11,12,13,72,73,74] .nil) (.node .nil 23 (.node (.node .nil 12 [1,5,8,9,10] .nil) 15 [1,5,8,9,10,11] .nil) .nil))) 27 (.node .nil 9 [0,1,6,7] .nil) (.node (.node (.node .nil 29 (.node (.node .nil 5 [0,1,6,7] .nil) 8 [0,1,6,7,8] .nil) .nil) 31 (.node (.node .nil 5 [0,1,6,7] .nil) 8 [0,1,6,7,8] .nil) (.node .nil 32 (.node .nil 4 [0,3] .nil) .nil)) 34 (.node .nil 4 [0,1,5] .nil) (.node (.node .nil 40 (.node .nil 9 [1,7,26,27,28] .nil) .nil) 42 (.node .nil 5 [1,15,16,17] .nil) (.node .nil 46 (.node .nil 3 [0,4,5] .nil) .nil)))) 47 (.node .nil 4 [0,8,9,10] .nil) (.node (.node (.node (.node .nil 49 (.node .nil 4 [0,1,6] .nil) .nil) 50 (.node .nil 6 [5,13,14,15] .nil) (.node .nil 51 (.node .nil 5 [0,4,5] .nil) .nil)) 53 (.node .nil 4 [0,1,7] .nil) (.node (.node .nil 54 (.node .nil 8 [0,1,6,7] .nil) .nil) 56 (.node (.node .nil 5 [0,1,6,7] .nil) 8 [0,1,6,7,8] .nil) (.node .nil 58 (.node (.node .nil 5 [0,1,6,7] .nil) 9 [0,1,6,7,8,9] .nil) .nil))) 59 (.node (.node .nil 4 [0,1,6] .nil) 8 [0,1,6,7,8] .nil) (.node (.node (.node .nil 65 (.node .nil 3 [0,3,4] .nil) .nil) 66 (.node .nil 8 [5,17,18,19] .nil) (.node .nil 67 (.node .nil 5 [0,4,19,20,21] .nil) .nil)) 69 (.node .nil 4 [4,10,11,12] .nil) (.node (.node .nil 70 (.node .nil 3 [1,5,8,9,10] .nil) .nil) 71 (.node .nil 3 [4,22,23,24] .nil) (.node .nil 72 (.node .nil 3 [1,5,7,8] .nil) .nil))))) 73 (.node .nil 3 [1,5,8,9] .nil) (.node (.node (.node (.node (.node .nil 75 (.node .nil 8 [3,4,5,6,7] .nil) .nil) 76 (.node .nil 3 [1,2,4,5] .nil) (.node .nil 83 (.node (.node .nil 3 [5,13,14,15] .nil) 6 [5,7,8,13,14,15] (.node .nil 11 [31,32,33] .nil)) .nil)) 84 (.node .nil 3 [0,1,5,6] .nil) (.node (.node .nil 86 (.node .nil 2 [6,7,8] .nil) .nil) 87 (.node (.node .nil 3 [1,2,7,14,15,16] .nil) 6 [1,2,7,9,14,15,16,20,21,22] .nil) (.node .nil 91 (.node .nil 4 [3,4,7,8,9] .nil) .nil))) 96 (.node (.node .nil 3 [0,3,9,10,11] .nil) 11 [6,25,26,27] .nil) (.node (.node (.node .nil 99 (.node (.node .nil 12 [0,1,5,39,40,41] .nil) 22 [1,8,63,64,65] .nil) .nil) 107 (.node .nil 2 [0,1,7,8] .nil) (.node .nil 113 (.node .nil 11 [0,1,2,3,9,10] .nil) .nil)) 115 (.node .nil 10 [5,6,47,48,49] .nil) (.node (.node .nil 117 (.node .nil 2 [0,1,2,3,4,10,11] .nil) .nil) 123 (.node .nil 6 [0,1,6,7] .nil) (.node .nil 124 (.node .nil 6 [0,1,5] .nil) .nil)))) 126 (.node .nil 15 [0,1,5,6,7,8,9,10] .nil) (.node (.node (.node (.node .nil 132 (.node (.node .nil 1 [0,1,2,3,8] .nil) 4 [0,1,2,3,8,9] .nil) .nil) 133 (.node (.node .nil 4 [0,3,8,9,10,11] .nil) 8 [0,3,8,9,12] .nil) (.node .nil 134 (.node .nil 5 [0,1,8,9,10,11] .nil) .nil)) 136 (.node .nil 2 [0,8,9] .nil) (.node (.node .nil 137 (.node (.node (.node .nil 3 [0,1,2,3,9,10] .nil) 5 [0,1,2,3,9,10] .nil) 14 [0,1,2,3,9,10,11] (.node .nil 20 [0,1,2,3,9,10,12] .nil)) .nil) 138 (.node (.node .nil 3 [0,1,4,11,12] .nil) 5 [0,1,4,11,12] .nil) (.node .nil 139 (.node (.node (.node .nil 3 [0,1,4,12,13] .nil) 5 [0,1,4,12,13] .nil) 13 [0,1,4,12,13] (.node .nil 15 [0,1,4,12,13] .nil)) .nil))) 144 (.node .nil 1 [0,1,4] .nil) (.node (.node (.node .nil 145 (.node (.node .nil 11 [0,1,3,4,10,11,12,13,14,15,16] .nil) 18 [0,1,3,4,10,11,12,13,17] .nil) .nil) 148 (.node .nil 2 [2,4] .nil) (.node .nil 154 (.node (.node .nil 5 [0,1,5,6,7,8,9] .nil) 11 [0,1,5,6,7,8,10] .nil) .nil)) 155 (.node .nil 36 [1,8,9,10,11,12,13,99,100,101] .nil) (.node (.node .nil 158 (.node .nil 1 [0,2,3,4,10] .nil) .nil) 169 (.node (.node .nil 3 [0,4,5] .nil) 8 [4,6,7,8] .nil) (.node .nil 171 (.node .nil 10 [0,3,4,5] .nil) .nil))))))
theorem tyTab_ok:tyTab.All fun t r=>tyOf Tryz.prog t=some r:=by
 unfold tyTab
 exact (Tr.all_node (Tr.all_node (Tr.all_node (Tr.all_node (Tr.all_node (Tr.all_node Tr.all_nil ty2_ok Tr.all_nil) ty3_ok Tr.all_nil) ty4_ok (Tr.all_node (Tr.all_node Tr.all_nil ty5_ok Tr.all_nil) ty9_ok Tr.all_nil)) ty21_ok (Tr.all_node (Tr.all_node (Tr.all_node Tr.all_nil ty22_ok Tr.all_nil) ty23_ok Tr.all_nil) ty25_ok (Tr.all_node (Tr.all_node Tr.all_nil ty27_ok Tr.all_nil) ty37_ok Tr.all_nil))) ty44_ok (Tr.all_node (Tr.all_node (Tr.all_node (Tr.all_node Tr.all_nil ty46_ok Tr.all_nil) ty74_ok Tr.all_nil) ty86_ok (Tr.all_node (Tr.all_node Tr.all_nil ty89_ok Tr.all_nil) ty91_ok Tr.all_nil)) ty98_ok (Tr.all_node (Tr.all_node (Tr.all_node Tr.all_nil ty102_ok Tr.all_nil) ty103_ok Tr.all_nil) ty104_ok (Tr.all_node (Tr.all_node Tr.all_nil ty106_ok Tr.all_nil) ty108_ok Tr.all_nil)))) ty109_ok (Tr.all_node (Tr.all_node (Tr.all_node (Tr.all_node (Tr.all_node Tr.all_nil ty111_ok Tr.all_nil) ty118_ok Tr.all_nil) ty120_ok (Tr.all_node (Tr.all_node Tr.all_nil ty123_ok Tr.all_nil) ty126_ok Tr.all_nil)) ty130_ok (Tr.all_node (Tr.all_node (Tr.all_node Tr.all_nil ty138_ok Tr.all_nil) ty140_ok Tr.all_nil) ty141_ok (Tr.all_node (Tr.all_node Tr.all_nil ty145_ok Tr.all_nil) ty157_ok Tr.all_nil))) ty159_ok (Tr.all_node (Tr.all_node (Tr.all_node (Tr.all_node Tr.all_nil ty163_ok Tr.all_nil) ty166_ok Tr.all_nil) ty167_ok (Tr.all_node (Tr.all_node Tr.all_nil ty172_ok Tr.all_nil) ty174_ok Tr.all_nil)) ty178_ok (Tr.all_node (Tr.all_node (Tr.all_node Tr.all_nil ty180_ok Tr.all_nil) ty181_ok Tr.all_nil) ty182_ok (Tr.all_node Tr.all_nil ty183_ok Tr.all_nil)))))
theorem fnTab_ok:fnTab.All fun k f=>Tryz.prog.funcs[k]?=some f:=by
 unfold fnTab
 exact (Tr.all_node (Tr.all_node (Tr.all_node (Tr.all_node (Tr.all_node (Tr.all_node (Tr.all_node (Tr.all_node Tr.all_nil Tryz.func2 Tr.all_nil) Tryz.func3 Tr.all_nil) Tryz.func4 (Tr.all_node (Tr.all_node Tr.all_nil Tryz.func5 Tr.all_nil) Tryz.func6 Tr.all_nil)) Tryz.func7 (Tr.all_node (Tr.all_node (Tr.all_node Tr.all_nil Tryz.func8 Tr.all_nil) Tryz.func9 Tr.all_nil) Tryz.func10 (Tr.all_node Tr.all_nil Tryz.func11 Tr.all_nil))) Tryz.func12 (Tr.all_node (Tr.all_node (Tr.all_node (Tr.all_node Tr.all_nil Tryz.func13 Tr.all_nil) Tryz.func14 Tr.all_nil) Tryz.func15 (Tr.all_node (Tr.all_node Tr.all_nil Tryz.func16 Tr.all_nil) Tryz.func17 Tr.all_nil)) Tryz.func18 (Tr.all_node (Tr.all_node (Tr.all_node Tr.all_nil Tryz.func19 Tr.all_nil) Tryz.func20 Tr.all_nil) Tryz.func21 (Tr.all_node Tr.all_nil Tryz.func22 Tr.all_nil)))) Tryz.func23 (Tr.all_node (Tr.all_node (Tr.all_node (Tr.all_node (Tr.all_node Tr.all_nil Tryz.func24 Tr.all_nil) Tryz.func25 Tr.all_nil) Tryz.func26 (Tr.all_node (Tr.all_node Tr.all_nil Tryz.func27 Tr.all_nil) Tryz.func28 Tr.all_nil)) Tryz.func29 (Tr.all_node (Tr.all_node (Tr.all_node Tr.all_nil Tryz.func30 Tr.all_nil) Tryz.func31 Tr.all_nil) Tryz.func32 (Tr.all_node Tr.all_nil Tryz.func33 Tr.all_nil))) Tryz.func34 (Tr.all_node (Tr.all_node (Tr.all_node (Tr.all_node Tr.all_nil Tryz.func35 Tr.all_nil) Tryz.func36 Tr.all_nil) Tryz.func37 (Tr.all_node Tr.all_nil Tryz.func38 Tr.all_nil)) Tryz.func39 (Tr.all_node (Tr.all_node (Tr.all_node Tr.all_nil Tryz.func40 Tr.all_nil) Tryz.func41 Tr.all_nil) Tryz.func42 (Tr.all_node Tr.all_nil Tryz.func43 Tr.all_nil))))) Tryz.func44 (Tr.all_node (Tr.all_node (Tr.all_node (Tr.all_node (Tr.all_node (Tr.all_node Tr.all_nil Tryz.func45 Tr.all_nil) Tryz.func46 Tr.all_nil) Tryz.func47 (Tr.all_node (Tr.all_node Tr.all_nil Tryz.func48 Tr.all_nil) Tryz.func49 Tr.all_nil)) Tryz.func50 (Tr.all_node (Tr.all_node (Tr.all_node Tr.all_nil Tryz.func51 Tr.all_nil) Tryz.func52 Tr.all_nil) Tryz.func53 (Tr.all_node Tr.all_nil Tryz.func54 Tr.all_nil))) Tryz.func55 (Tr.all_node (Tr.all_node (Tr.all_node (Tr.all_node Tr.all_nil Tryz.func56 Tr.all_nil) Tryz.func57 Tr.all_nil) Tryz.func58 (Tr.all_node Tr.all_nil Tryz.func59 Tr.all_nil)) Tryz.func60 (Tr.all_node (Tr.all_node (Tr.all_node Tr.all_nil Tryz.func61 Tr.all_nil) Tryz.func62 Tr.all_nil) Tryz.func63 (Tr.all_node Tr.all_nil Tryz.func64 Tr.all_nil)))) Tryz.func65 (Tr.all_node (Tr.all_node (Tr.all_node (Tr.all_node (Tr.all_node Tr.all_nil Tryz.func66 Tr.all_nil) Tryz.func67 Tr.all_nil) Tryz.func68 (Tr.all_node (Tr.all_node Tr.all_nil Tryz.func69 Tr.all_nil) Tryz.func70 Tr.all_nil)) Tryz.func71 (Tr.all_node (Tr.all_node (Tr.all_node Tr.all_nil Tryz.func72 Tr.all_nil) Tryz.func73 Tr.all_nil) Tryz.func74 (Tr.all_node Tr.all_nil Tryz.func75 Tr.all_nil))) Tryz.func76 (Tr.all_node (Tr.all_node (Tr.all_node (Tr.all_node Tr.all_nil Tryz.func77 Tr.all_nil) Tryz.func78 Tr.all_nil) Tryz.func79 (Tr.all_node Tr.all_nil Tryz.func80 Tr.all_nil)) Tryz.func81 (Tr.all_node (Tr.all_node (Tr.all_node Tr.all_nil Tryz.func82 Tr.all_nil) Tryz.func83 Tr.all_nil) Tryz.func84 (Tr.all_node Tr.all_nil Tryz.func85 Tr.all_nil)))))) Tryz.func86 (Tr.all_node (Tr.all_node (Tr.all_node (Tr.all_node (Tr.all_node (Tr.all_node (Tr.all_node Tr.all_nil Tryz.func87 Tr.all_nil) Tryz.func88 Tr.all_nil) Tryz.func89 (Tr.all_node (Tr.all_node Tr.all_nil Tryz.func90 Tr.all_nil) Tryz.func91 Tr.all_nil)) Tryz.func92 (Tr.all_node (Tr.all_node (Tr.all_node Tr.all_nil Tryz.func93 Tr.all_nil) Tryz.func94 Tr.all_nil) Tryz.func95 (Tr.all_node Tr.all_nil Tryz.func96 Tr.all_nil))) Tryz.func97 (Tr.all_node (Tr.all_node (Tr.all_node (Tr.all_node Tr.all_nil Tryz.func98 Tr.all_nil) Tryz.func99 Tr.all_nil) Tryz.func100 (Tr.all_node (Tr.all_node Tr.all_nil Tryz.func101 Tr.all_nil) Tryz.func102 Tr.all_nil)) Tryz.func103 (Tr.all_node (Tr.all_node (Tr.all_node Tr.all_nil Tryz.func104 Tr.all_nil) Tryz.func105 Tr.all_nil) Tryz.func106 (Tr.all_node Tr.all_nil Tryz.func107 Tr.all_nil)))) Tryz.func108 (Tr.all_node (Tr.all_node (Tr.all_node (Tr.all_node (Tr.all_node Tr.all_nil Tryz.func109 Tr.all_nil) Tryz.func110 Tr.all_nil) Tryz.func111 (Tr.all_node (Tr.all_node Tr.all_nil Tryz.func112 Tr.all_nil) Tryz.func113 Tr.all_nil)) Tryz.func114 (Tr.all_node (Tr.all_node (Tr.all_node Tr.all_nil Tryz.func115 Tr.all_nil) Tryz.func116 Tr.all_nil) Tryz.func117 (Tr.all_node Tr.all_nil Tryz.func118 Tr.all_nil))) Tryz.func119 (Tr.all_node (Tr.all_node (Tr.all_node (Tr.all_node Tr.all_nil Tryz.func120 Tr.all_nil) Tryz.func121 Tr.all_nil) Tryz.func122 (Tr.all_node Tr.all_nil Tryz.func123 Tr.all_nil)) Tryz.func124 (Tr.all_node (Tr.all_node (Tr.all_node Tr.all_nil Tryz.func125 Tr.all_nil) Tryz.func126 Tr.all_nil) Tryz.func127 (Tr.all_node Tr.all_nil Tryz.func128 Tr.all_nil))))) Tryz.func129 (Tr.all_node (Tr.all_node (Tr.all_node (Tr.all_node (Tr.all_node (Tr.all_node Tr.all_nil Tryz.func130 Tr.all_nil) Tryz.func131 Tr.all_nil) Tryz.func132 (Tr.all_node (Tr.all_node Tr.all_nil Tryz.func133 Tr.all_nil) Tryz.func134 Tr.all_nil)) Tryz.func135 (Tr.all_node (Tr.all_node (Tr.all_node Tr.all_nil Tryz.func136 Tr.all_nil) Tryz.func137 Tr.all_nil) Tryz.func138 (Tr.all_node Tr.all_nil Tryz.func139 Tr.all_nil))) Tryz.func140 (Tr.all_node (Tr.all_node (Tr.all_node (Tr.all_node Tr.all_nil Tryz.func141 Tr.all_nil) Tryz.func142 Tr.all_nil) Tryz.func143 (Tr.all_node Tr.all_nil Tryz.func144 Tr.all_nil)) Tryz.func145 (Tr.all_node (Tr.all_node (Tr.all_node Tr.all_nil Tryz.func148 Tr.all_nil) Tryz.func149 Tr.all_nil) Tryz.func151 (Tr.all_node Tr.all_nil Tryz.func153 Tr.all_nil)))) Tryz.func154 (Tr.all_node (Tr.all_node (Tr.all_node (Tr.all_node (Tr.all_node Tr.all_nil Tryz.func155 Tr.all_nil) Tryz.func156 Tr.all_nil) Tryz.func157 (Tr.all_node (Tr.all_node Tr.all_nil Tryz.func158 Tr.all_nil) Tryz.func159 Tr.all_nil)) Tryz.func160 (Tr.all_node (Tr.all_node (Tr.all_node Tr.all_nil Tryz.func161 Tr.all_nil) Tryz.func162 Tr.all_nil) Tryz.func163 (Tr.all_node Tr.all_nil Tryz.func164 Tr.all_nil))) Tryz.func165 (Tr.all_node (Tr.all_node (Tr.all_node (Tr.all_node Tr.all_nil Tryz.func166 Tr.all_nil) Tryz.func167 Tr.all_nil) Tryz.func169 (Tr.all_node Tr.all_nil Tryz.func170 Tr.all_nil)) Tryz.func171 (Tr.all_node (Tr.all_node (Tr.all_node Tr.all_nil Tryz.func172 Tr.all_nil) Tryz.func173 Tr.all_nil) Tryz.func174 (Tr.all_node Tr.all_nil Tryz.func204 Tr.all_nil)))))))
noncomputable def eqB (t : TypeId) : Bool := !Tryz.prog.stoodInHeld t && !Tryz.prog.eqGuardType Tryz.prog.depth t && (match Tryz.prog.underlying t with | some (.struct fs) => fs.toList.all (fun f => f.name != "_") | _ => true)
theorem eq25_ok:eqB 25=true:=by kernel_rfl
theorem eq46_ok:eqB 46=true:=by kernel_rfl
theorem eq111_ok:eqB 111=true:=by kernel_rfl
theorem eq141_ok:eqB 141=true:=by kernel_rfl
theorem eq166_ok:eqB 166=true:=by kernel_rfl
theorem eq167_ok:eqB 167=true:=by kernel_rfl
theorem eq174_ok:eqB 174=true:=by kernel_rfl
theorem eq178_ok:eqB 178=true:=by kernel_rfl
theorem eq180_ok:eqB 180=true:=by kernel_rfl
theorem eq181_ok:eqB 181=true:=by kernel_rfl
theorem eq182_ok:eqB 182=true:=by kernel_rfl
theorem eq183_ok:eqB 183=true:=by kernel_rfl
noncomputable def eqTab:Tr Unit:=(.node (.node (.node (.node .nil 25 () .nil) 46 () (.node .nil 111 () .nil)) 141 () (.node (.node .nil 166 () .nil) 167 () .nil)) 174 () (.node (.node (.node .nil 178 () .nil) 180 () .nil) 181 () (.node (.node .nil 182 () .nil) 183 () .nil)))
theorem eqTab_ok:eqTab.All fun t _=>eqB t=true:=by
 unfold eqTab
 exact (Tr.all_node (Tr.all_node (Tr.all_node (Tr.all_node Tr.all_nil eq25_ok Tr.all_nil) eq46_ok (Tr.all_node Tr.all_nil eq111_ok Tr.all_nil)) eq141_ok (Tr.all_node (Tr.all_node Tr.all_nil eq166_ok Tr.all_nil) eq167_ok Tr.all_nil)) eq174_ok (Tr.all_node (Tr.all_node (Tr.all_node Tr.all_nil eq178_ok Tr.all_nil) eq180_ok Tr.all_nil) eq181_ok (Tr.all_node (Tr.all_node Tr.all_nil eq182_ok Tr.all_nil) eq183_ok Tr.all_nil)))
theorem en2_ok : Tryz.f2.body.isSome = true ∧ Tryz.f2.name ≠ "runtime.NumGoroutine" := ⟨by kernel_rfl, by decide⟩
theorem en3_ok : Tryz.f3.body.isSome = true ∧ Tryz.f3.name ≠ "runtime.NumGoroutine" := ⟨by kernel_rfl, by decide⟩
theorem en4_ok : Tryz.f4.body.isSome = true ∧ Tryz.f4.name ≠ "runtime.NumGoroutine" := ⟨by kernel_rfl, by decide⟩
theorem en5_ok : Tryz.f5.body.isSome = true ∧ Tryz.f5.name ≠ "runtime.NumGoroutine" := ⟨by kernel_rfl, by decide⟩
theorem en6_ok : Tryz.f6.body.isSome = true ∧ Tryz.f6.name ≠ "runtime.NumGoroutine" := ⟨by kernel_rfl, by decide⟩
theorem en7_ok : Tryz.f7.body.isSome = true ∧ Tryz.f7.name ≠ "runtime.NumGoroutine" := ⟨by kernel_rfl, by decide⟩
theorem en8_ok : Tryz.f8.body.isSome = true ∧ Tryz.f8.name ≠ "runtime.NumGoroutine" := ⟨by kernel_rfl, by decide⟩
theorem en9_ok : Tryz.f9.body.isSome = true ∧ Tryz.f9.name ≠ "runtime.NumGoroutine" := ⟨by kernel_rfl, by decide⟩
theorem en10_ok : Tryz.f10.body.isSome = true ∧ Tryz.f10.name ≠ "runtime.NumGoroutine" := ⟨by kernel_rfl, by decide⟩
theorem en11_ok : Tryz.f11.body.isSome = true ∧ Tryz.f11.name ≠ "runtime.NumGoroutine" := ⟨by kernel_rfl, by decide⟩
theorem en12_ok : Tryz.f12.body.isSome = true ∧ Tryz.f12.name ≠ "runtime.NumGoroutine" := ⟨by kernel_rfl, by decide⟩
theorem en13_ok : Tryz.f13.body.isSome = true ∧ Tryz.f13.name ≠ "runtime.NumGoroutine" := ⟨by kernel_rfl, by decide⟩
theorem en14_ok : Tryz.f14.body.isSome = true ∧ Tryz.f14.name ≠ "runtime.NumGoroutine" := ⟨by kernel_rfl, by decide⟩
theorem en15_ok : Tryz.f15.body.isSome = true ∧ Tryz.f15.name ≠ "runtime.NumGoroutine" := ⟨by kernel_rfl, by decide⟩
theorem en16_ok : Tryz.f16.body.isSome = true ∧ Tryz.f16.name ≠ "runtime.NumGoroutine" := ⟨by kernel_rfl, by decide⟩
theorem en17_ok : Tryz.f17.body.isSome = true ∧ Tryz.f17.name ≠ "runtime.NumGoroutine" := ⟨by kernel_rfl, by decide⟩
theorem en18_ok : Tryz.f18.body.isSome = true ∧ Tryz.f18.name ≠ "runtime.NumGoroutine" := ⟨by kernel_rfl, by decide⟩
theorem en19_ok : Tryz.f19.body.isSome = true ∧ Tryz.f19.name ≠ "runtime.NumGoroutine" := ⟨by kernel_rfl, by decide⟩
theorem en20_ok : Tryz.f20.body.isSome = true ∧ Tryz.f20.name ≠ "runtime.NumGoroutine" := ⟨by kernel_rfl, by decide⟩
theorem en21_ok : Tryz.f21.body.isSome = true ∧ Tryz.f21.name ≠ "runtime.NumGoroutine" := ⟨by kernel_rfl, by decide⟩
theorem en22_ok : Tryz.f22.body.isSome = true ∧ Tryz.f22.name ≠ "runtime.NumGoroutine" := ⟨by kernel_rfl, by decide⟩
theorem en23_ok : Tryz.f23.body.isSome = true ∧ Tryz.f23.name ≠ "runtime.NumGoroutine" := ⟨by kernel_rfl, by decide⟩
theorem en24_ok : Tryz.f24.body.isSome = true ∧ Tryz.f24.name ≠ "runtime.NumGoroutine" := ⟨by kernel_rfl, by decide⟩
theorem en25_ok : Tryz.f25.body.isSome = true ∧ Tryz.f25.name ≠ "runtime.NumGoroutine" := ⟨by kernel_rfl, by decide⟩
theorem en26_ok : Tryz.f26.body.isSome = true ∧ Tryz.f26.name ≠ "runtime.NumGoroutine" := ⟨by kernel_rfl, by decide⟩
theorem en27_ok : Tryz.f27.body.isSome = true ∧ Tryz.f27.name ≠ "runtime.NumGoroutine" := ⟨by kernel_rfl, by decide⟩
theorem en28_ok : Tryz.f28.body.isSome = true ∧ Tryz.f28.name ≠ "runtime.NumGoroutine" := ⟨by kernel_rfl, by decide⟩
theorem en29_ok : Tryz.f29.body.isSome = true ∧ Tryz.f29.name ≠ "runtime.NumGoroutine" := ⟨by kernel_rfl, by decide⟩
theorem en30_ok : Tryz.f30.body.isSome = true ∧ Tryz.f30.name ≠ "runtime.NumGoroutine" := ⟨by kernel_rfl, by decide⟩
theorem en31_ok : Tryz.f31.body.isSome = true ∧ Tryz.f31.name ≠ "runtime.NumGoroutine" := ⟨by kernel_rfl, by decide⟩
theorem en32_ok : Tryz.f32.body.isSome = true ∧ Tryz.f32.name ≠ "runtime.NumGoroutine" := ⟨by kernel_rfl, by decide⟩
theorem en33_ok : Tryz.f33.body.isSome = true ∧ Tryz.f33.name ≠ "runtime.NumGoroutine" := ⟨by kernel_rfl, by decide⟩
theorem en34_ok : Tryz.f34.body.isSome = true ∧ Tryz.f34.name ≠ "runtime.NumGoroutine" := ⟨by kernel_rfl, by decide⟩
theorem en35_ok : Tryz.f35.body.isSome = true ∧ Tryz.f35.name ≠ "runtime.NumGoroutine" := ⟨by kernel_rfl, by decide⟩
theorem en36_ok : Tryz.f36.body.isSome = true ∧ Tryz.f36.name ≠ "runtime.NumGoroutine" := ⟨by kernel_rfl, by decide⟩
theorem en37_ok : Tryz.f37.body.isSome = true ∧ Tryz.f37.name ≠ "runtime.NumGoroutine" := ⟨by kernel_rfl, by decide⟩
theorem en38_ok : Tryz.f38.body.isSome = true ∧ Tryz.f38.name ≠ "runtime.NumGoroutine" := ⟨by kernel_rfl, by decide⟩
theorem en39_ok : Tryz.f39.body.isSome = true ∧ Tryz.f39.name ≠ "runtime.NumGoroutine" := ⟨by kernel_rfl, by decide⟩
theorem en40_ok : Tryz.f40.body.isSome = true ∧ Tryz.f40.name ≠ "runtime.NumGoroutine" := ⟨by kernel_rfl, by decide⟩
theorem en41_ok : Tryz.f41.body.isSome = true ∧ Tryz.f41.name ≠ "runtime.NumGoroutine" := ⟨by kernel_rfl, by decide⟩
theorem en42_ok : Tryz.f42.body.isSome = true ∧ Tryz.f42.name ≠ "runtime.NumGoroutine" := ⟨by kernel_rfl, by decide⟩
theorem en43_ok : Tryz.f43.body.isSome = true ∧ Tryz.f43.name ≠ "runtime.NumGoroutine" := ⟨by kernel_rfl, by decide⟩
theorem en44_ok : Tryz.f44.body.isSome = true ∧ Tryz.f44.name ≠ "runtime.NumGoroutine" := ⟨by kernel_rfl, by decide⟩
theorem en45_ok : Tryz.f45.body.isSome = true ∧ Tryz.f45.name ≠ "runtime.NumGoroutine" := ⟨by kernel_rfl, by decide⟩
theorem en46_ok : Tryz.f46.body.isSome = true ∧ Tryz.f46.name ≠ "runtime.NumGoroutine" := ⟨by kernel_rfl, by decide⟩
theorem en47_ok : Tryz.f47.body.isSome = true ∧ Tryz.f47.name ≠ "runtime.NumGoroutine" := ⟨by kernel_rfl, by decide⟩
theorem en48_ok : Tryz.f48.body.isSome = true ∧ Tryz.f48.name ≠ "runtime.NumGoroutine" := ⟨by kernel_rfl, by decide⟩
theorem en49_ok : Tryz.f49.body.isSome = true ∧ Tryz.f49.name ≠ "runtime.NumGoroutine" := ⟨by kernel_rfl, by decide⟩
theorem en50_ok : Tryz.f50.body.isSome = true ∧ Tryz.f50.name ≠ "runtime.NumGoroutine" := ⟨by kernel_rfl, by decide⟩
theorem en51_ok : Tryz.f51.body.isSome = true ∧ Tryz.f51.name ≠ "runtime.NumGoroutine" := ⟨by kernel_rfl, by decide⟩
theorem en52_ok : Tryz.f52.body.isSome = true ∧ Tryz.f52.name ≠ "runtime.NumGoroutine" := ⟨by kernel_rfl, by decide⟩
theorem en53_ok : Tryz.f53.body.isSome = true ∧ Tryz.f53.name ≠ "runtime.NumGoroutine" := ⟨by kernel_rfl, by decide⟩
theorem en54_ok : Tryz.f54.body.isSome = true ∧ Tryz.f54.name ≠ "runtime.NumGoroutine" := ⟨by kernel_rfl, by decide⟩
theorem en55_ok : Tryz.f55.body.isSome = true ∧ Tryz.f55.name ≠ "runtime.NumGoroutine" := ⟨by kernel_rfl, by decide⟩
theorem en56_ok : Tryz.f56.body.isSome = true ∧ Tryz.f56.name ≠ "runtime.NumGoroutine" := ⟨by kernel_rfl, by decide⟩
theorem en57_ok : Tryz.f57.body.isSome = true ∧ Tryz.f57.name ≠ "runtime.NumGoroutine" := ⟨by kernel_rfl, by decide⟩
theorem en58_ok : Tryz.f58.body.isSome = true ∧ Tryz.f58.name ≠ "runtime.NumGoroutine" := ⟨by kernel_rfl, by decide⟩
theorem en59_ok : Tryz.f59.body.isSome = true ∧ Tryz.f59.name ≠ "runtime.NumGoroutine" := ⟨by kernel_rfl, by decide⟩
theorem en60_ok : Tryz.f60.body.isSome = true ∧ Tryz.f60.name ≠ "runtime.NumGoroutine" := ⟨by kernel_rfl, by decide⟩
theorem en61_ok : Tryz.f61.body.isSome = true ∧ Tryz.f61.name ≠ "runtime.NumGoroutine" := ⟨by kernel_rfl, by decide⟩
theorem en62_ok : Tryz.f62.body.isSome = true ∧ Tryz.f62.name ≠ "runtime.NumGoroutine" := ⟨by kernel_rfl, by decide⟩
theorem en63_ok : Tryz.f63.body.isSome = true ∧ Tryz.f63.name ≠ "runtime.NumGoroutine" := ⟨by kernel_rfl, by decide⟩
theorem en64_ok : Tryz.f64.body.isSome = true ∧ Tryz.f64.name ≠ "runtime.NumGoroutine" := ⟨by kernel_rfl, by decide⟩
theorem en65_ok : Tryz.f65.body.isSome = true ∧ Tryz.f65.name ≠ "runtime.NumGoroutine" := ⟨by kernel_rfl, by decide⟩
theorem en66_ok : Tryz.f66.body.isSome = true ∧ Tryz.f66.name ≠ "runtime.NumGoroutine" := ⟨by kernel_rfl, by decide⟩
theorem en67_ok : Tryz.f67.body.isSome = true ∧ Tryz.f67.name ≠ "runtime.NumGoroutine" := ⟨by kernel_rfl, by decide⟩
theorem en68_ok : Tryz.f68.body.isSome = true ∧ Tryz.f68.name ≠ "runtime.NumGoroutine" := ⟨by kernel_rfl, by decide⟩
theorem en69_ok : Tryz.f69.body.isSome = true ∧ Tryz.f69.name ≠ "runtime.NumGoroutine" := ⟨by kernel_rfl, by decide⟩
theorem en70_ok : Tryz.f70.body.isSome = true ∧ Tryz.f70.name ≠ "runtime.NumGoroutine" := ⟨by kernel_rfl, by decide⟩
theorem en71_ok : Tryz.f71.body.isSome = true ∧ Tryz.f71.name ≠ "runtime.NumGoroutine" := ⟨by kernel_rfl, by decide⟩
theorem en72_ok : Tryz.f72.body.isSome = true ∧ Tryz.f72.name ≠ "runtime.NumGoroutine" := ⟨by kernel_rfl, by decide⟩
theorem en73_ok : Tryz.f73.body.isSome = true ∧ Tryz.f73.name ≠ "runtime.NumGoroutine" := ⟨by kernel_rfl, by decide⟩
theorem en74_ok : Tryz.f74.body.isSome = true ∧ Tryz.f74.name ≠ "runtime.NumGoroutine" := ⟨by kernel_rfl, by decide⟩
theorem en75_ok : Tryz.f75.body.isSome = true ∧ Tryz.f75.name ≠ "runtime.NumGoroutine" := ⟨by kernel_rfl, by decide⟩
theorem en76_ok : Tryz.f76.body.isSome = true ∧ Tryz.f76.name ≠ "runtime.NumGoroutine" := ⟨by kernel_rfl, by decide⟩
theorem en77_ok : Tryz.f77.body.isSome = true ∧ Tryz.f77.name ≠ "runtime.NumGoroutine" := ⟨by kernel_rfl, by decide⟩
theorem en78_ok : Tryz.f78.body.isSome = true ∧ Tryz.f78.name ≠ "runtime.NumGoroutine" := ⟨by kernel_rfl, by decide⟩
theorem en79_ok : Tryz.f79.body.isSome = true ∧ Tryz.f79.name ≠ "runtime.NumGoroutine" := ⟨by kernel_rfl, by decide⟩
theorem en80_ok : Tryz.f80.body.isSome = true ∧ Tryz.f80.name ≠ "runtime.NumGoroutine" := ⟨by kernel_rfl, by decide⟩
theorem en81_ok : Tryz.f81.body.isSome = true ∧ Tryz.f81.name ≠ "runtime.NumGoroutine" := ⟨by kernel_rfl, by decide⟩
theorem en82_ok : Tryz.f82.body.isSome = true ∧ Tryz.f82.name ≠ "runtime.NumGoroutine" := ⟨by kernel_rfl, by decide⟩
theorem en83_ok : Tryz.f83.body.isSome = true ∧ Tryz.f83.name ≠ "runtime.NumGoroutine" := ⟨by kernel_rfl, by decide⟩
theorem en84_ok : Tryz.f84.body.isSome = true ∧ Tryz.f84.name ≠ "runtime.NumGoroutine" := ⟨by kernel_rfl, by decide⟩
theorem en85_ok : Tryz.f85.body.isSome = true ∧ Tryz.f85.name ≠ "runtime.NumGoroutine" := ⟨by kernel_rfl, by decide⟩
theorem en86_ok : Tryz.f86.body.isSome = true ∧ Tryz.f86.name ≠ "runtime.NumGoroutine" := ⟨by kernel_rfl, by decide⟩
theorem en87_ok : Tryz.f87.body.isSome = true ∧ Tryz.f87.name ≠ "runtime.NumGoroutine" := ⟨by kernel_rfl, by decide⟩
theorem en88_ok : Tryz.f88.body.isSome = true ∧ Tryz.f88.name ≠ "runtime.NumGoroutine" := ⟨by kernel_rfl, by decide⟩
theorem en89_ok : Tryz.f89.body.isSome = true ∧ Tryz.f89.name ≠ "runtime.NumGoroutine" := ⟨by kernel_rfl, by decide⟩
theorem en90_ok : Tryz.f90.body.isSome = true ∧ Tryz.f90.name ≠ "runtime.NumGoroutine" := ⟨by kernel_rfl, by decide⟩
theorem en91_ok : Tryz.f91.body.isSome = true ∧ Tryz.f91.name ≠ "runtime.NumGoroutine" := ⟨by kernel_rfl, by decide⟩
theorem en92_ok : Tryz.f92.body.isSome = true ∧ Tryz.f92.name ≠ "runtime.NumGoroutine" := ⟨by kernel_rfl, by decide⟩
theorem en93_ok : Tryz.f93.body.isSome = true ∧ Tryz.f93.name ≠ "runtime.NumGoroutine" := ⟨by kernel_rfl, by decide⟩
theorem en94_ok : Tryz.f94.body.isSome = true ∧ Tryz.f94.name ≠ "runtime.NumGoroutine" := ⟨by kernel_rfl, by decide⟩
theorem en95_ok : Tryz.f95.body.isSome = true ∧ Tryz.f95.name ≠ "runtime.NumGoroutine" := ⟨by kernel_rfl, by decide⟩
theorem en96_ok : Tryz.f96.body.isSome = true ∧ Tryz.f96.name ≠ "runtime.NumGoroutine" := ⟨by kernel_rfl, by decide⟩
theorem en97_ok : Tryz.f97.body.isSome = true ∧ Tryz.f97.name ≠ "runtime.NumGoroutine" := ⟨by kernel_rfl, by decide⟩
theorem en98_ok : Tryz.f98.body.isSome = true ∧ Tryz.f98.name ≠ "runtime.NumGoroutine" := ⟨by kernel_rfl, by decide⟩
theorem en99_ok : Tryz.f99.body.isSome = true ∧ Tryz.f99.name ≠ "runtime.NumGoroutine" := ⟨by kernel_rfl, by decide⟩
theorem en100_ok : Tryz.f100.body.isSome = true ∧ Tryz.f100.name ≠ "runtime.NumGoroutine" := ⟨by kernel_rfl, by decide⟩
theorem en101_ok : Tryz.f101.body.isSome = true ∧ Tryz.f101.name ≠ "runtime.NumGoroutine" := ⟨by kernel_rfl, by decide⟩
theorem en102_ok : Tryz.f102.body.isSome = true ∧ Tryz.f102.name ≠ "runtime.NumGoroutine" := ⟨by kernel_rfl, by decide⟩
theorem en103_ok : Tryz.f103.body.isSome = true ∧ Tryz.f103.name ≠ "runtime.NumGoroutine" := ⟨by kernel_rfl, by decide⟩
theorem en104_ok : Tryz.f104.body.isSome = true ∧ Tryz.f104.name ≠ "runtime.NumGoroutine" := ⟨by kernel_rfl, by decide⟩
theorem en105_ok : Tryz.f105.body.isSome = true ∧ Tryz.f105.name ≠ "runtime.NumGoroutine" := ⟨by kernel_rfl, by decide⟩
theorem en106_ok : Tryz.f106.body.isSome = true ∧ Tryz.f106.name ≠ "runtime.NumGoroutine" := ⟨by kernel_rfl, by decide⟩
theorem en107_ok : Tryz.f107.body.isSome = true ∧ Tryz.f107.name ≠ "runtime.NumGoroutine" := ⟨by kernel_rfl, by decide⟩
theorem en108_ok : Tryz.f108.body.isSome = true ∧ Tryz.f108.name ≠ "runtime.NumGoroutine" := ⟨by kernel_rfl, by decide⟩
theorem en109_ok : Tryz.f109.body.isSome = true ∧ Tryz.f109.name ≠ "runtime.NumGoroutine" := ⟨by kernel_rfl, by decide⟩
theorem en110_ok : Tryz.f110.body.isSome = true ∧ Tryz.f110.name ≠ "runtime.NumGoroutine" := ⟨by kernel_rfl, by decide⟩
theorem en111_ok : Tryz.f111.body.isSome = true ∧ Tryz.f111.name ≠ "runtime.NumGoroutine" := ⟨by kernel_rfl, by decide⟩
theorem en112_ok : Tryz.f112.body.isSome = true ∧ Tryz.f112.name ≠ "runtime.NumGoroutine" := ⟨by kernel_rfl, by decide⟩
theorem en113_ok : Tryz.f113.body.isSome = true ∧ Tryz.f113.name ≠ "runtime.NumGoroutine" := ⟨by kernel_rfl, by decide⟩
theorem en114_ok : Tryz.f114.body.isSome = true ∧ Tryz.f114.name ≠ "runtime.NumGoroutine" := ⟨by kernel_rfl, by decide⟩
theorem en115_ok : Tryz.f115.body.isSome = true ∧ Tryz.f115.name ≠ "runtime.NumGoroutine" := ⟨by kernel_rfl, by decide⟩
theorem en116_ok : Tryz.f116.body.isSome = true ∧ Tryz.f116.name ≠ "runtime.NumGoroutine" := ⟨by kernel_rfl, by decide⟩
theorem en117_ok : Tryz.f117.body.isSome = true ∧ Tryz.f117.name ≠ "runtime.NumGoroutine" := ⟨by kernel_rfl, by decide⟩
theorem en118_ok : Tryz.f118.body.isSome = true ∧ Tryz.f118.name ≠ "runtime.NumGoroutine" := ⟨by kernel_rfl, by decide⟩
theorem en119_ok : Tryz.f119.body.isSome = true ∧ Tryz.f119.name ≠ "runtime.NumGoroutine" := ⟨by kernel_rfl, by decide⟩
theorem en120_ok : Tryz.f120.body.isSome = true ∧ Tryz.f120.name ≠ "runtime.NumGoroutine" := ⟨by kernel_rfl, by decide⟩
theorem en121_ok : Tryz.f121.body.isSome = true ∧ Tryz.f121.name ≠ "runtime.NumGoroutine" := ⟨by kernel_rfl, by decide⟩
theorem en122_ok : Tryz.f122.body.isSome = true ∧ Tryz.f122.name ≠ "runtime.NumGoroutine" := ⟨by kernel_rfl, by decide⟩
theorem en123_ok : Tryz.f123.body.isSome = true ∧ Tryz.f123.name ≠ "runtime.NumGoroutine" := ⟨by kernel_rfl, by decide⟩
theorem en124_ok : Tryz.f124.body.isSome = true ∧ Tryz.f124.name ≠ "runtime.NumGoroutine" := ⟨by kernel_rfl, by decide⟩
theorem en125_ok : Tryz.f125.body.isSome = true ∧ Tryz.f125.name ≠ "runtime.NumGoroutine" := ⟨by kernel_rfl, by decide⟩
theorem en126_ok : Tryz.f126.body.isSome = true ∧ Tryz.f126.name ≠ "runtime.NumGoroutine" := ⟨by kernel_rfl, by decide⟩
theorem en127_ok : Tryz.f127.body.isSome = true ∧ Tryz.f127.name ≠ "runtime.NumGoroutine" := ⟨by kernel_rfl, by decide⟩
theorem en128_ok : Tryz.f128.body.isSome = true ∧ Tryz.f128.name ≠ "runtime.NumGoroutine" := ⟨by kernel_rfl, by decide⟩
theorem en129_ok : Tryz.f129.body.isSome = true ∧ Tryz.f129.name ≠ "runtime.NumGoroutine" := ⟨by kernel_rfl, by decide⟩
theorem en130_ok : Tryz.f130.body.isSome = true ∧ Tryz.f130.name ≠ "runtime.NumGoroutine" := ⟨by kernel_rfl, by decide⟩
theorem en131_ok : Tryz.f131.body.isSome = true ∧ Tryz.f131.name ≠ "runtime.NumGoroutine" := ⟨by kernel_rfl, by decide⟩
theorem en132_ok : Tryz.f132.body.isSome = true ∧ Tryz.f132.name ≠ "runtime.NumGoroutine" := ⟨by kernel_rfl, by decide⟩
theorem en133_ok : Tryz.f133.body.isSome = true ∧ Tryz.f133.name ≠ "runtime.NumGoroutine" := ⟨by kernel_rfl, by decide⟩
theorem en134_ok : Tryz.f134.body.isSome = true ∧ Tryz.f134.name ≠ "runtime.NumGoroutine" := ⟨by kernel_rfl, by decide⟩
theorem en135_ok : Tryz.f135.body.isSome = true ∧ Tryz.f135.name ≠ "runtime.NumGoroutine" := ⟨by kernel_rfl, by decide⟩
theorem en136_ok : Tryz.f136.body.isSome = true ∧ Tryz.f136.name ≠ "runtime.NumGoroutine" := ⟨by kernel_rfl, by decide⟩
theorem en137_ok : Tryz.f137.body.isSome = true ∧ Tryz.f137.name ≠ "runtime.NumGoroutine" := ⟨by kernel_rfl, by decide⟩
theorem en138_ok : Tryz.f138.body.isSome = true ∧ Tryz.f138.name ≠ "runtime.NumGoroutine" := ⟨by kernel_rfl, by decide⟩
theorem en139_ok : Tryz.f139.body.isSome = true ∧ Tryz.f139.name ≠ "runtime.NumGoroutine" := ⟨by kernel_rfl, by decide⟩
theorem en140_ok : Tryz.f140.body.isSome = true ∧ Tryz.f140.name ≠ "runtime.NumGoroutine" := ⟨by kernel_rfl, by decide⟩
theorem en141_ok : Tryz.f141.body.isSome = true ∧ Tryz.f141.name ≠ "runtime.NumGoroutine" := ⟨by kernel_rfl, by decide⟩
theorem en142_ok : Tryz.f142.body.isSome = true ∧ Tryz.f142.name ≠ "runtime.NumGoroutine" := ⟨by kernel_rfl, by decide⟩
theorem en143_ok : Tryz.f143.body.isSome = true ∧ Tryz.f143.name ≠ "runtime.NumGoroutine" := ⟨by kernel_rfl, by decide⟩
theorem en144_ok : Tryz.f144.body.isSome = true ∧ Tryz.f144.name ≠ "runtime.NumGoroutine" := ⟨by kernel_rfl, by decide⟩
theorem en145_ok : Tryz.f145.body.isSome = true ∧ Tryz.f145.name ≠ "runtime.NumGoroutine" := ⟨by kernel_rfl, by decide⟩
theorem en148_ok : Tryz.f148.body.isSome = true ∧ Tryz.f148.name ≠ "runtime.NumGoroutine" := ⟨by kernel_rfl, by decide⟩
theorem en149_ok : Tryz.f149.body.isSome = true ∧ Tryz.f149.name ≠ "runtime.NumGoroutine" := ⟨by kernel_rfl, by decide⟩
theorem en151_ok : Tryz.f151.body.isSome = true ∧ Tryz.f151.name ≠ "runtime.NumGoroutine" := ⟨by kernel_rfl, by decide⟩
theorem en153_ok : Tryz.f153.body.isSome = true ∧ Tryz.f153.name ≠ "runtime.NumGoroutine" := ⟨by kernel_rfl, by decide⟩
theorem en154_ok : Tryz.f154.body.isSome = true ∧ Tryz.f154.name ≠ "runtime.NumGoroutine" := ⟨by kernel_rfl, by decide⟩
theorem en155_ok : Tryz.f155.body.isSome = true ∧ Tryz.f155.name ≠ "runtime.NumGoroutine" := ⟨by kernel_rfl, by decide⟩
theorem en156_ok : Tryz.f156.body.isSome = true ∧ Tryz.f156.name ≠ "runtime.NumGoroutine" := ⟨by kernel_rfl, by decide⟩
theorem en157_ok : Tryz.f157.body.isSome = true ∧ Tryz.f157.name ≠ "runtime.NumGoroutine" := ⟨by kernel_rfl, by decide⟩
theorem en158_ok : Tryz.f158.body.isSome = true ∧ Tryz.f158.name ≠ "runtime.NumGoroutine" := ⟨by kernel_rfl, by decide⟩
theorem en159_ok : Tryz.f159.body.isSome = true ∧ Tryz.f159.name ≠ "runtime.NumGoroutine" := ⟨by kernel_rfl, by decide⟩
theorem en160_ok : Tryz.f160.body.isSome = true ∧ Tryz.f160.name ≠ "runtime.NumGoroutine" := ⟨by kernel_rfl, by decide⟩
theorem en161_ok : Tryz.f161.body.isSome = true ∧ Tryz.f161.name ≠ "runtime.NumGoroutine" := ⟨by kernel_rfl, by decide⟩
theorem en162_ok : Tryz.f162.body.isSome = true ∧ Tryz.f162.name ≠ "runtime.NumGoroutine" := ⟨by kernel_rfl, by decide⟩
theorem en163_ok : Tryz.f163.body.isSome = true ∧ Tryz.f163.name ≠ "runtime.NumGoroutine" := ⟨by kernel_rfl, by decide⟩
theorem en164_ok : Tryz.f164.body.isSome = true ∧ Tryz.f164.name ≠ "runtime.NumGoroutine" := ⟨by kernel_rfl, by decide⟩
theorem en165_ok : Tryz.f165.body.isSome = true ∧ Tryz.f165.name ≠ "runtime.NumGoroutine" := ⟨by kernel_rfl, by decide⟩
theorem en166_ok : Tryz.f166.body.isSome = true ∧ Tryz.f166.name ≠ "runtime.NumGoroutine" := ⟨by kernel_rfl, by decide⟩
theorem en167_ok : Tryz.f167.body.isSome = true ∧ Tryz.f167.name ≠ "runtime.NumGoroutine" := ⟨by kernel_rfl, by decide⟩
theorem en169_ok : Tryz.f169.body.isSome = true ∧ Tryz.f169.name ≠ "runtime.NumGoroutine" := ⟨by kernel_rfl, by decide⟩
theorem en170_ok : Tryz.f170.body.isSome = true ∧ Tryz.f170.name ≠ "runtime.NumGoroutine" := ⟨by kernel_rfl, by decide⟩
theorem en171_ok : Tryz.f171.body.isSome = true ∧ Tryz.f171.name ≠ "runtime.NumGoroutine" := ⟨by kernel_rfl, by decide⟩
theorem en172_ok : Tryz.f172.body.isSome = true ∧ Tryz.f172.name ≠ "runtime.NumGoroutine" := ⟨by kernel_rfl, by decide⟩
theorem en173_ok : Tryz.f173.body.isSome = true ∧ Tryz.f173.name ≠ "runtime.NumGoroutine" := ⟨by kernel_rfl, by decide⟩
theorem en174_ok : Tryz.f174.body.isSome = true ∧ Tryz.f174.name ≠ "runtime.NumGoroutine" := ⟨by kernel_rfl, by decide⟩
theorem en204_ok : Tryz.f204.body.isSome = true ∧ Tryz.f204.name ≠ "runtime.NumGoroutine" := ⟨by kernel_rfl, by decide⟩
theorem enTab_ok : fnTab.All fun _ f => f.body.isSome = true ∧ f.name ≠ "runtime.NumGoroutine" := by
 unfold fnTab
 exact (Tr.all_node (Tr.all_node (Tr.all_node (Tr.all_node (Tr.all_node (Tr.all_node (Tr.all_node (Tr.all_node Tr.all_nil en2_ok Tr.all_nil) en3_ok Tr.all_nil) en4_ok (Tr.all_node (Tr.all_node Tr.all_nil en5_ok Tr.all_nil) en6_ok Tr.all_nil)) en7_ok (Tr.all_node (Tr.all_node (Tr.all_node Tr.all_nil en8_ok Tr.all_nil) en9_ok Tr.all_nil) en10_ok (Tr.all_node Tr.all_nil en11_ok Tr.all_nil))) en12_ok (Tr.all_node (Tr.all_node (Tr.all_node (Tr.all_node Tr.all_nil en13_ok Tr.all_nil) en14_ok Tr.all_nil) en15_ok (Tr.all_node (Tr.all_node Tr.all_nil en16_ok Tr.all_nil) en17_ok Tr.all_nil)) en18_ok (Tr.all_node (Tr.all_node (Tr.all_node Tr.all_nil en19_ok Tr.all_nil) en20_ok Tr.all_nil) en21_ok (Tr.all_node Tr.all_nil en22_ok Tr.all_nil)))) en23_ok (Tr.all_node (Tr.all_node (Tr.all_node (Tr.all_node (Tr.all_node Tr.all_nil en24_ok Tr.all_nil) en25_ok Tr.all_nil) en26_ok (Tr.all_node (Tr.all_node Tr.all_nil en27_ok Tr.all_nil) en28_ok Tr.all_nil)) en29_ok (Tr.all_node (Tr.all_node (Tr.all_node Tr.all_nil en30_ok Tr.all_nil) en31_ok Tr.all_nil) en32_ok (Tr.all_node Tr.all_nil en33_ok Tr.all_nil))) en34_ok (Tr.all_node (Tr.all_node (Tr.all_node (Tr.all_node Tr.all_nil en35_ok Tr.all_nil) en36_ok Tr.all_nil) en37_ok (Tr.all_node Tr.all_nil en38_ok Tr.all_nil)) en39_ok (Tr.all_node (Tr.all_node (Tr.all_node Tr.all_nil en40_ok Tr.all_nil) en41_ok Tr.all_nil) en42_ok (Tr.all_node Tr.all_nil en43_ok Tr.all_nil))))) en44_ok (Tr.all_node (Tr.all_node (Tr.all_node (Tr.all_node (Tr.all_node (Tr.all_node Tr.all_nil en45_ok Tr.all_nil) en46_ok Tr.all_nil) en47_ok (Tr.all_node (Tr.all_node Tr.all_nil en48_ok Tr.all_nil) en49_ok Tr.all_nil)) en50_ok (Tr.all_node (Tr.all_node (Tr.all_node Tr.all_nil en51_ok Tr.all_nil) en52_ok Tr.all_nil) en53_ok (Tr.all_node Tr.all_nil en54_ok Tr.all_nil))) en55_ok (Tr.all_node (Tr.all_node (Tr.all_node (Tr.all_node Tr.all_nil en56_ok Tr.all_nil) en57_ok Tr.all_nil) en58_ok (Tr.all_node Tr.all_nil en59_ok Tr.all_nil)) en60_ok (Tr.all_node (Tr.all_node (Tr.all_node Tr.all_nil en61_ok Tr.all_nil) en62_ok Tr.all_nil) en63_ok (Tr.all_node Tr.all_nil en64_ok Tr.all_nil)))) en65_ok (Tr.all_node (Tr.all_node (Tr.all_node (Tr.all_node (Tr.all_node Tr.all_nil en66_ok Tr.all_nil) en67_ok Tr.all_nil) en68_ok (Tr.all_node (Tr.all_node Tr.all_nil en69_ok Tr.all_nil) en70_ok Tr.all_nil)) en71_ok (Tr.all_node (Tr.all_node (Tr.all_node Tr.all_nil en72_ok Tr.all_nil) en73_ok Tr.all_nil) en74_ok (Tr.all_node Tr.all_nil en75_ok Tr.all_nil))) en76_ok (Tr.all_node (Tr.all_node (Tr.all_node (Tr.all_node Tr.all_nil en77_ok Tr.all_nil) en78_ok Tr.all_nil) en79_ok (Tr.all_node Tr.all_nil en80_ok Tr.all_nil)) en81_ok (Tr.all_node (Tr.all_node (Tr.all_node Tr.all_nil en82_ok Tr.all_nil) en83_ok Tr.all_nil) en84_ok (Tr.all_node Tr.all_nil en85_ok Tr.all_nil)))))) en86_ok (Tr.all_node (Tr.all_node (Tr.all_node (Tr.all_node (Tr.all_node (Tr.all_node (Tr.all_node Tr.all_nil en87_ok Tr.all_nil) en88_ok Tr.all_nil) en89_ok (Tr.all_node (Tr.all_node Tr.all_nil en90_ok Tr.all_nil) en91_ok Tr.all_nil)) en92_ok (Tr.all_node (Tr.all_node (Tr.all_node Tr.all_nil en93_ok Tr.all_nil) en94_ok Tr.all_nil) en95_ok (Tr.all_node Tr.all_nil en96_ok Tr.all_nil))) en97_ok (Tr.all_node (Tr.all_node (Tr.all_node (Tr.all_node Tr.all_nil en98_ok Tr.all_nil) en99_ok Tr.all_nil) en100_ok (Tr.all_node (Tr.all_node Tr.all_nil en101_ok Tr.all_nil) en102_ok Tr.all_nil)) en103_ok (Tr.all_node (Tr.all_node (Tr.all_node Tr.all_nil en104_ok Tr.all_nil) en105_ok Tr.all_nil) en106_ok (Tr.all_node Tr.all_nil en107_ok Tr.all_nil)))) en108_ok (Tr.all_node (Tr.all_node (Tr.all_node (Tr.all_node (Tr.all_node Tr.all_nil en109_ok Tr.all_nil) en110_ok Tr.all_nil) en111_ok (Tr.all_node (Tr.all_node Tr.all_nil en112_ok Tr.all_nil) en113_ok Tr.all_nil)) en114_ok (Tr.all_node (Tr.all_node (Tr.all_node Tr.all_nil en115_ok Tr.all_nil) en116_ok Tr.all_nil) en117_ok (Tr.all_node Tr.all_nil en118_ok Tr.all_nil))) en119_ok (Tr.all_node (Tr.all_node (Tr.all_node (Tr.all_node Tr.all_nil en120_ok Tr.all_nil) en121_ok Tr.all_nil) en122_ok (Tr.all_node Tr.all_nil en123_ok Tr.all_nil)) en124_ok (Tr.all_node (Tr.all_node (Tr.all_node Tr.all_nil en125_ok Tr.all_nil) en126_ok Tr.all_nil) en127_ok (Tr.all_node Tr.all_nil en128_ok Tr.all_nil))))) en129_ok (Tr.all_node (Tr.all_node (Tr.all_node (Tr.all_node (Tr.all_node (Tr.all_node Tr.all_nil en130_ok Tr.all_nil) en131_ok Tr.all_nil) en132_ok (Tr.all_node (Tr.all_node Tr.all_nil en133_ok Tr.all_nil) en134_ok Tr.all_nil)) en135_ok (Tr.all_node (Tr.all_node (Tr.all_node Tr.all_nil en136_ok Tr.all_nil) en137_ok Tr.all_nil) en138_ok (Tr.all_node Tr.all_nil en139_ok Tr.all_nil))) en140_ok (Tr.all_node (Tr.all_node (Tr.all_node (Tr.all_node Tr.all_nil en141_ok Tr.all_nil) en142_ok Tr.all_nil) en143_ok (Tr.all_node Tr.all_nil en144_ok Tr.all_nil)) en145_ok (Tr.all_node (Tr.all_node (Tr.all_node Tr.all_nil en148_ok Tr.all_nil) en149_ok Tr.all_nil) en151_ok (Tr.all_node Tr.all_nil en153_ok Tr.all_nil)))) en154_ok (Tr.all_node (Tr.all_node (Tr.all_node (Tr.all_node (Tr.all_node Tr.all_nil en155_ok Tr.all_nil) en156_ok Tr.all_nil) en157_ok (Tr.all_node (Tr.all_node Tr.all_nil en158_ok Tr.all_nil) en159_ok Tr.all_nil)) en160_ok (Tr.all_node (Tr.all_node (Tr.all_node Tr.all_nil en161_ok Tr.all_nil) en162_ok Tr.all_nil) en163_ok (Tr.all_node Tr.all_nil en164_ok Tr.all_nil))) en165_ok (Tr.all_node (Tr.all_node (Tr.all_node (Tr.all_node Tr.all_nil en166_ok Tr.all_nil) en167_ok Tr.all_nil) en169_ok (Tr.all_node Tr.all_nil en170_ok Tr.all_nil)) en171_ok (Tr.all_node (Tr.all_node (Tr.all_node Tr.all_nil en172_ok Tr.all_nil) en173_ok Tr.all_nil) en174_ok (Tr.all_node Tr.all_nil en204_ok Tr.all_nil)))))))
theorem cty3:tyTab.find 3=some ty3:=by kernel_rfl
theorem cty23:tyTab.find 23=some ty23:=by kernel_rfl
theorem cty25:tyTab.find 25=some yl:=by kernel_rfl
theorem cfn104:fnTab.find 104=some Tryz.f104:=by kernel_rfl
set_option linter.defProp false
noncomputable def find2 (t:Tr (Tr (List Nat))) (f r:Nat):List Nat:=match t.find f with | some u=>(match u.find r with | some l=>l | none=>[]) | none=>[]
end Go.VS

namespace Go.VS
open Go

inductive Kt where
 | code (c:Code) | block (id:Nat) | scope | loop (a:Code)

section
variable {β:Type} (C:Cfg) (S:Sm) (f:FuncId) (F:Exit→St→Option β)
def contK:List Kt→Exit→St→Option β
 | [],e,st=>F e st
 | .code c::k,e,st=>match e with
  | .normal=>match yo C S f c st with
   | some (e,st')=>contK k e st'
   | none=>none
  | e=>contK k e st
 | .block id::k,e,st=>match e with
  | .exit id'=>if id'=id then contK k .normal st else contK k (.exit id') st
  | e=>contK k e st
 | .scope::k,e,st=>match e with
  | .goto _=>none
  | e=>contK k e st
 | .loop a::k,e,st=>match e with
  | .normal=>match gc (C.keep f (firstRegion a)) st with
   | some st1=>match S.loop f a st1 with
    | some (e,st2)=>contK k e st2
    | none=>none
   | none=>none
  | e=>contK k e st
def EvL (a:Code) (k:List Kt) (st:St):Option β:=match S.loop f a st with
 | some (e,st')=>contK C S f F k e st'
 | none=>none
def EvC (c:Code) (k:List Kt) (st:St):Option β:=match yo C S f c st with
 | some (e,st')=>contK C S f F k e st'
 | none=>none
def EvU (ops:Array Oper) (l:List Oper) (k:List Kt) (st:St):Option β:=match evOps C S ops l st with
 | some st'=>contK C S f F k .normal st'
 | none=>none
def EvD (ops:Array Oper) (l:List Oper) (tr:Trace) (k:List Kt) (st:St):Option β:=match evOpsT C S ops l st with
 | some (st',tr')=>if regOK ops && traceOK ops (tr.reverse++tr') then contK C S f F k .normal st' else none
 | none=>none
end

section
variable {β:Type} {C:Cfg} {S:Sm} {f:FuncId} {F:Exit→St→Option β} {k:List Kt} {st:St} {r:Option β} {a b c:Code}
variable {ops:Array Oper} {l:List Oper} {o:Oper} {n nxt pin:Nat} {tms tm:List (Nat × D)} {objs ob:List (Nat × Ob)} {d:D} {wr:List Upd} {rd:List Nat} {nx:Nat} {tr:Trace}
def Put (n:Nat) (tms:List (Nat × D)) (dst:Option Tmp) (d:D) (G:List (Nat × D)→Prop):Prop:=G (putT n tms dst d)
variable {dst:Option Tmp} {G:List (Nat × D)→Prop} {tm1 tm0:List (Nat × D)}
theorem ids_val {f:Nat} {v:Value}:idsD (f+1) (.val v)=some []:=rfl
theorem ids_sl {f:Nat} {nl:Bool} {els:List D} {sz:Nat} {cap:Option Nat}:idsD (f+1) (.sl nl els sz cap)=some []:=rfl
theorem ids_ptr {f:Nat} {d:D}:idsD (f+1) (.ptr d)=some []:=rfl
theorem ids_lref {f o i sz sub:Nat}:idsD (f+1) (.lref o i sz sub)=some [o]:=rfl
theorem ids_lsl {f o off len sz:Nat} {cap:Option Nat}:idsD (f+1) (.lsl o off len sz cap)=some [o]:=rfl
theorem ids_agg {f:Nat} {cs:List D}:idsD (f+1) (.agg cs)=idsL (idsD f) cs:=rfl
theorem ids_tup {f:Nat} {cs:List D}:idsD (f+1) (.tup cs)=idsL (idsD f) cs:=rfl
theorem ids_unk {f:Nat}:idsD (f+1) .unk=some []:=rfl
theorem ren_val {ρ:Nat→Option Nat} {f:Nat} {v:Value}:renD ρ (f+1) (.val v)=.val v:=rfl
theorem ren_sl {ρ:Nat→Option Nat} {f:Nat} {nl:Bool} {els:List D} {sz:Nat} {cap:Option Nat}:renD ρ (f+1) (.sl nl els sz cap)=.sl nl els sz cap:=rfl
theorem ren_ptr {ρ:Nat→Option Nat} {f:Nat} {d:D}:renD ρ (f+1) (.ptr d)=.ptr d:=rfl
theorem ren_lref {ρ:Nat→Option Nat} {f o i sz sub:Nat}:renD ρ (f+1) (.lref o i sz sub)=match ρ o with | some o'=>.lref o' i sz sub | none=>.unk:=rfl
theorem ren_lsl {ρ:Nat→Option Nat} {f o off len sz:Nat} {cap:Option Nat}:renD ρ (f+1) (.lsl o off len sz cap)=match ρ o with | some o'=>.lsl o' off len sz cap | none=>.unk:=rfl
theorem ren_agg {ρ:Nat→Option Nat} {f:Nat} {cs:List D}:renD ρ (f+1) (.agg cs)=.agg (cs.map (renD ρ f)):=rfl
theorem ren_tup {ρ:Nat→Option Nat} {f:Nat} {cs:List D}:renD ρ (f+1) (.tup cs)=.tup (cs.map (renD ρ f)):=rfl
theorem ren_unk {ρ:Nat→Option Nat} {f:Nat}:renD ρ (f+1) .unk=.unk:=rfl
theorem on_int {k:IntKind} {n:Int}:D.one (.val (.int k n))=true:=rfl
theorem oc_int {k:IntKind} {n:Int}:D.okCells (.val (.int k n))=true:=rfl
theorem ce_int {k:IntKind} {n:Int}:D.cells (.val (.int k n))=[.val (.int k n)]:=rfl
theorem on_bool {b:Bool}:D.one (.val (.bool b))=true:=rfl
theorem oc_bool {b:Bool}:D.okCells (.val (.bool b))=true:=rfl
theorem ce_bool {b:Bool}:D.cells (.val (.bool b))=[.val (.bool b)]:=rfl
theorem on_str {b:ByteArray}:D.one (.val (.string b))=true:=rfl
theorem oc_str {b:ByteArray}:D.okCells (.val (.string b))=true:=rfl
theorem ce_str {b:ByteArray}:D.cells (.val (.string b))=[.val (.string b)]:=rfl
theorem on_vptr {p:Option Addr}:D.one (.val (.pointer p))=true:=rfl
theorem oc_vptr {p:Option Addr}:D.okCells (.val (.pointer p))=true:=rfl
theorem ce_vptr {p:Option Addr}:D.cells (.val (.pointer p))=[.val (.pointer p)]:=rfl
theorem on_vnf :D.one (.val .nilFunc)=true:=rfl
theorem oc_vnf :D.okCells (.val .nilFunc)=true:=rfl
theorem ce_vnf :D.cells (.val .nilFunc)=[.val .nilFunc]:=rfl
theorem on_vni :D.one (.val .nilIface)=true:=rfl
theorem oc_vni :D.okCells (.val .nilIface)=true:=rfl
theorem ce_vni :D.cells (.val .nilIface)=[.val .nilIface]:=rfl
theorem on_sl {nl:Bool} {els:List D} {sz:Nat} {cap:Option Nat}:D.one (.sl nl els sz cap)=true:=rfl
theorem oc_sl {nl:Bool} {els:List D} {sz:Nat} {cap:Option Nat}:D.okCells (.sl nl els sz cap)=true:=rfl
theorem ce_sl {nl:Bool} {els:List D} {sz:Nat} {cap:Option Nat}:D.cells (.sl nl els sz cap)=[.sl nl els sz cap]:=rfl
theorem on_ptr {d:D}:D.one (.ptr d)=true:=rfl
theorem oc_ptr {d:D}:D.okCells (.ptr d)=true:=rfl
theorem ce_ptr {d:D}:D.cells (.ptr d)=[.ptr d]:=rfl
theorem on_lref {o i sz sub:Nat}:D.one (.lref o i sz sub)=true:=rfl
theorem oc_lref {o i sz sub:Nat}:D.okCells (.lref o i sz sub)=true:=rfl
theorem ce_lref {o i sz sub:Nat}:D.cells (.lref o i sz sub)=[.lref o i sz sub]:=rfl
theorem on_lsl {o off len sz:Nat} {cap:Option Nat}:D.one (.lsl o off len sz cap)=true:=rfl
theorem oc_lsl {o off len sz:Nat} {cap:Option Nat}:D.okCells (.lsl o off len sz cap)=true:=rfl
theorem ce_lsl {o off len sz:Nat} {cap:Option Nat}:D.cells (.lsl o off len sz cap)=[.lsl o off len sz cap]:=rfl
theorem on_fn {f:Fn} {a b:List D}:D.one (.fn f a b)=true:=rfl
theorem oc_fn {f:Fn} {a b:List D}:D.okCells (.fn f a b)=true:=rfl
theorem ce_fn {f:Fn} {a b:List D}:D.cells (.fn f a b)=[.fn f a b]:=rfl
theorem on_iface {t:TypeId} {d:D}:D.one (.iface t d)=true:=rfl
theorem oc_iface {t:TypeId} {d:D}:D.okCells (.iface t d)=true:=rfl
theorem ce_iface {t:TypeId} {d:D}:D.cells (.iface t d)=[.iface t d]:=rfl
theorem on_agg {cs:List D}:D.one (.agg cs)=false:=rfl
theorem oc_agg {cs:List D}:D.okCells (.agg cs)=allOne cs:=rfl
theorem ce_agg {cs:List D}:D.cells (.agg cs)=cs:=rfl
section
variable {gO:Nat→Option Ob}
theorem dd_val {v:Value}:deepD gO (.val v)=.val v:=rfl
theorem dd_sl {nl:Bool} {els:List D} {sz:Nat} {cap:Option Nat}:deepD gO (.sl nl els sz cap)=.sl nl els sz cap:=rfl
theorem dd_ptr {d:D}:deepD gO (.ptr d)=.ptr d:=rfl
theorem dd_lsl {o off len sz:Nat} {cap:Option Nat}:deepD gO (.lsl o off len sz cap)=.lsl o off len sz cap:=rfl
theorem di_val {v:Value}:deepI gO (.val v)=[]:=rfl
theorem di_sl {nl:Bool} {els:List D} {sz:Nat} {cap:Option Nat}:deepI gO (.sl nl els sz cap)=[]:=rfl
theorem di_ptr {d:D}:deepI gO (.ptr d)=[]:=rfl
theorem di_lsl {o off len sz:Nat} {cap:Option Nat}:deepI gO (.lsl o off len sz cap)=[]:=rfl
end
def frz (b:Bool) (g:Nat→Option Ob) (ids:List Nat):List Upd:=if b then [] else freeze g ids
theorem frz_nil {b:Bool} {g:Nat→Option Ob}:frz b g []=[]:=by cases b <;> rfl
theorem frz_true {g:Nat→Option Ob} {ids:List Nat}:frz true g ids=[]:=rfl
theorem frz_false {g:Nat→Option Ob} {ids:List Nat}:frz false g ids=freeze g ids:=rfl
theorem callPure_eq {S:Sm} {objs:List (Nat × Ob)} {nxt:Nat} {K:FuncId} {args:List D}:callPure S objs nxt K args=match snapAll (snap (zB objs) fuelD) args with
 | some (args',ids)=>match S.pure K args' with
  | some r=>some ⟨r,frz (flat fuelD r) (zB objs) ids,ids,nxt⟩
  | none=>none
 | none=>none:=rfl
theorem fl_val {f:Nat} {v:Value}:flat (f+1) (.val v)=true:=rfl
theorem fl_nil {f:Nat} {els:List D} {sz:Nat} {cap:Option Nat}:flat (f+1) (.sl true els sz cap)=true:=rfl
theorem fl_sl {f:Nat} {els:List D} {sz:Nat} {cap:Option Nat}:flat (f+1) (.sl false els sz cap)=false:=rfl
theorem fl_agg {f:Nat} {cs:List D}:flat (f+1) (.agg cs)=flatL (flat f) cs:=rfl
theorem fl_tup {f:Nat} {cs:List D}:flat (f+1) (.tup cs)=flatL (flat f) cs:=rfl
theorem fl_ptr {f:Nat} {d:D}:flat (f+1) (.ptr d)=false:=rfl
theorem fl_fn {f:Nat} {g:Fn} {a b:List D}:flat (f+1) (.fn g a b)=false:=rfl
theorem fl_iface {f:Nat} {t:TypeId} {d:D}:flat (f+1) (.iface t d)=false:=rfl
section
variable {gO:Nat→Option Ob} {f:Nat}
theorem sn_val {v:Value}:snap gO (f+1) (.val v)=some (.val v,[]):=rfl
theorem sn_sl {nl:Bool} {els:List D} {sz:Nat} {cap:Option Nat}:snap gO (f+1) (.sl nl els sz cap)=some (.sl nl els sz none,[]):=rfl
theorem sn_ptr {d:D}:snap gO (f+1) (.ptr d)=some (.ptr d,[]):=rfl
theorem sn_agg {cs:List D}:snap gO (f+1) (.agg cs)=match snapAll (snap gO f) cs with | some (cs,r)=>some (.agg cs,r) | none=>none:=rfl
theorem sn_tup {cs:List D}:snap gO (f+1) (.tup cs)=match snapAll (snap gO f) cs with | some (cs,r)=>some (.tup cs,r) | none=>none:=rfl
theorem sn_fn {g:Fn} {a b:List D}:snap gO (f+1) (.fn g a b)=match snapAll (snap gO f) a,snapAll (snap gO f) b with | some (a,r),some (b,r')=>some (.fn g a b,r++r') | _,_=>none:=rfl
theorem sn_lref {o i sz : Nat} : snap gO (f + 1) (.lref o i sz 0) = match gO o with
      | some ob => if ob.sz = sz then match ob.els[i]? with
        | some e => match snap gO f e with | some (e, r) => some (.ptr e, o :: r) | none => none
        | none => none
        else none
      | none => none := rfl
theorem sn_lsl {o off len sz : Nat} {cap : Option Nat} : snap gO (f + 1) (.lsl o off len sz cap) = match gO o with
      | some ob => if ob.sz = sz && decide (off + len ≤ ob.els.length) then
        match snapAll (snap gO f) ((ob.els.drop off).take len) with | some (es, r) => some (.sl false es sz none, o :: r) | none => none
        else none
      | none => none := rfl
end
def subC:List Nat→Code→Code
 | [],c=>c
 | i::p,c=>match c with
  | .seq a b=>match i with | 0=>subC p a | _=>subC p b
  | .cond _ a b=>match i with | 0=>subC p a | _=>subC p b
  | .block _ a=>subC p a
  | .loop a=>subC p a
  | .scope a=>subC p a
  | .rangeFunc _ _ a b=>match i with | 0=>subC p a | _=>subC p b
  | c=>c
def bodyC (fn:Func):Code:=match fn.body with | some c=>c | none=>.skip
def finF (C:Cfg) (fn:Func) (e:Exit) (st:St):Option (D × List (Nat × Ob) × Nat):=match e with
 | .normal=>match resAll C st fn.results.toList with | some ds=>some (tupOf ds,st.objs,st.nxt) | none=>none
 | .ret=>match resAll C st fn.results.toList with | some ds=>some (tupOf ds,st.objs,st.nxt) | none=>none
 | _=>none
def finP (C:Cfg) (fn:Func) (e:Exit) (st:St):Option D:=match finF C fn e st with
 | some (d,objs,_)=>match snap (zB objs) fuelD d with
  | some (d,_)=>some d
  | none=>none
 | none=>none
end
set_option linter.defProp false
def bO:=(Ai (Ai (Ai (Ai (Ai @on_int @oc_int) (Ai @ce_int @on_bool)) (Ai (Ai @oc_bool @ce_bool) (Ai @on_str (Ai @oc_str @ce_str)))) (Ai (Ai (Ai @on_vptr @oc_vptr) (Ai @ce_vptr (Ai @on_vnf @oc_vnf))) (Ai (Ai @ce_vnf @on_vni) (Ai @oc_vni (Ai @ce_vni @on_sl))))) (Ai (Ai (Ai (Ai @oc_sl @ce_sl) (Ai @on_ptr (Ai @oc_ptr @ce_ptr))) (Ai (Ai @on_lref @oc_lref) (Ai @ce_lref (Ai @on_lsl @oc_lsl)))) (Ai (Ai (Ai @ce_lsl @on_fn) (Ai @oc_fn (Ai @ce_fn @on_iface))) (Ai (Ai @oc_iface @ce_iface) (Ai @on_agg (Ai @oc_agg @ce_agg))))))
def bS:=(Ai (Ai (Ai (Ai @sn_val @sn_sl) (Ai @sn_ptr (Ai @sn_agg @sn_tup))) (Ai (Ai @sn_fn @sn_lref) (Ai @sn_lsl (Ai @callPure_eq @frz_nil)))) (Ai (Ai (Ai @frz_true @frz_false) (Ai @fl_val (Ai @fl_nil @fl_sl))) (Ai (Ai @fl_agg @fl_tup) (Ai @fl_ptr (Ai @fl_fn @fl_iface)))))
def zs (b:Bool) (n:Nat):Nat:=match b with | true=>0 | false=>n
theorem zs_false {n:Nat}:zs false n=n:=rfl
theorem zs_true {n:Nat}:zs true n=0:=rfl
attribute [go_sem] zs_true clearD evOp zQ get eqb_dec ltb_dec decide_true decide_false cond_true cond_false evBox evAlloc zeroOk zeroD allOne Bool.and_true Bool.true_and Bool.and_self Bool.and_false Bool.false_and Bool.or_false Bool.or_true Bool.false_or Bool.true_or Bool.not_true Bool.not_false if_true newOb List.length_cons List.length_nil just justO evFieldAddr evField fieldOf List.getElem?_cons_zero List.getElem?_cons_succ Nat.zero_add Nat.add_zero Nat.one_ne_zero evLoad evStore setPart elAt zB Ty.isAgg binD binVal binNil nilKind neqOf kindCode binInt isConstO ofV ofCell evPick Bool.false_eq_true if_false List.take List.drop List.map_cons List.map_nil List.append_nil List.nil_append List.cons_append List.set unD callD snapAll fuelD flatL freeze builtinD lenT capT evIndexAddr ixSlice ixArr intOfD Int.toNat_natCast Int.natCast_nonneg Int.toNat_zero Int.le_refl Nat.zero_mul Nat.mul_zero convD evExtract buildD fillAgg fillCells placesOf argP eqD eqParts onVals eqVal isAggD Nat.le_refl Array.toList_map List.size_toArray List.getElem?_toArray Nat.sub_zero Nat.mul_one evIndex ixVal bO bS putT ins applyUpd oins odel finP finF resAll resOf tupOf evBuildSlice sliceElem fillEls List.replicate appendD appendZ zLen appendE elemsD allOk appSl appLsl newRow isSl List.isEmpty evSlice sliceOf slSlice lslSlice optBound boundD capBehind Option.map_some Option.map_none Option.isNone Option.isSome Option.getD_none Option.getD_some rdOf gc gc0 gcWith rootsT keepT rootsO ids_val ids_sl ids_ptr ids_lref ids_lsl ids_agg ids_tup ids_unk idsL liveFrom_nil liveFrom_succ memN fromPin renT ren_val ren_sl ren_ptr ren_lref ren_lsl ren_agg ren_tup ren_unk renN placeOf pinO renO renOb Nat.not_lt_zero Nat.lt_irrefl deepen deepT deepTI deepO deepOI deepA deepAI deepEl deepElI catI
attribute [irreducible] EvC EvU EvD EvL contK Put
end Go.VS

namespace Go.VS
open Go

structure EncOK {α:Type} (sz:Nat) (f:α→D):Prop where
 snap:∀ g n x,snap g (n+2) (f x)=some (f x,[])
 ids:∀ n x,idsD (n+2) (f x)=some []
 ren:∀ ρ n x,renD ρ (n+2) (f x)=f x
 ok:∀ x,(f x).okCells=true∧(f x).cells.length=sz
section
variable {α:Type} {sz:Nat} {f:α→D} (h:EncOK sz f)
include h
theorem EncOK.snapAll (g:Nat→Option Ob) (n:Nat) (l:List α):Go.VS.snapAll (Go.VS.snap g (n+2)) (l.map f)=some (l.map f,[]):=by
 induction l with
 | nil=>rfl
 | cons x l ih=>simp only [List.map_cons,Go.VS.snapAll,ih,h.snap]; rfl
theorem EncOK.idsL (n:Nat) (l:List α):Go.VS.idsL (idsD (n+2)) (l.map f)=some []:=by
 induction l with
 | nil=>rfl
 | cons x l ih=>simp only [List.map_cons,Go.VS.idsL,ih,h.ids]; rfl
theorem EncOK.renL (ρ:Nat→Option Nat) (n:Nat) (l:List α):(l.map f).map (renD ρ (n+2))=l.map f:=by
 rw [List.map_map]; exact List.map_congr_left fun x _=>h.ren ρ n x
theorem EncOK.allOk (l:List α):Go.VS.allOk sz (l.map f)=true:=by
 induction l with
 | nil=>rfl
 | cons x l ih=>simp only [List.map_cons,Go.VS.allOk,ih,(h.ok x).1,(h.ok x).2,decide_true,Bool.and_self]
end
def gO (k sz:Nat) {α:Type} (f:α→D) (l:List α):List (Nat × Ob):=match l with | []=>[] | x::r=>[(k,⟨(x::r).map f,sz,false⟩)]
section
variable {t:Ty} {sub:Nat}
end
theorem ids_fn {f:Nat} {g:Fn} {a b:List D}:idsD (f+1) (.fn g a b)=match idsL (idsD f) a,idsL (idsD f) b with | some a,some b=>some (a++b) | _,_=>none:=rfl
theorem ren_fn {ρ:Nat→Option Nat} {f:Nat} {g:Fn} {a b:List D}:renD ρ (f+1) (.fn g a b)=.fn g (a.map (renD ρ f)) (b.map (renD ρ f)):=rfl
theorem ids_iface {f:Nat} {t:TypeId} {d:D}:idsD (f+1) (.iface t d)=idsD f d:=rfl
theorem ren_iface {ρ:Nat→Option Nat} {f:Nat} {t:TypeId} {d:D}:renD ρ (f+1) (.iface t d)=.iface t (renD ρ f d):=rfl
set_option linter.defProp false
def bI2:=(Ai (Ai @ids_fn @ren_fn) (Ai @ids_iface @ren_iface))
end Go.VS

namespace Go.VS
open Go

inductive Ora where
 | dec (b:Bool)
 | pure (d:D)
 | pureS (d:D) (fl:Bool) (a:List (Nat × D × List Nat))
 | inl (d:D) (objs:List (Nat × Ob)) (nxt:Nat)
 | inlS (ids:List Nat) (d:D) (objs:List (Nat × Ob)) (nxt:Nat)
 | el (d:D)
 | op (t:Option Tmp) (r:Out)
 | rw (t:Tmp) (d:D)
 | stS (k:Nat) (r:Out)
 | loop (e:Exit) (st:St)
 | gloop (st1:St) (e:Exit) (st:St)
 | iter (objs:List (Nat × Ob)) (nxt:Nat) (p:Option Code)
 | loopY (e:Exit) (st:St) (p:Option Code)
 | gloopY (st1:St) (e:Exit) (st:St) (p:Option Code)
 | cut
 | reg
def allP:List Prop→Prop
 | []=>True
 | p::r=>p∧allP r
def dead:Sm:=⟨fun _ _=>none,fun _ _ _ _=>none,fun _ _ _=>none,fun _ _ _ _=>none,fun _ _ _ _ _=>none⟩
theorem dead_le (S:Sm):Le dead S:=⟨fun _ _ _ h=>by simp [dead] at h,fun _ _ _ _ _ h=>by simp [dead] at h,fun _ _ _ _ h=>by simp [dead] at h,fun _ _ _ _ _ h=>by simp [dead] at h,fun _ _ _ _ _ _ h=>by simp [dead] at h⟩

abbrev SA:=List (Nat × D × List Nat)
def snapAllP (g:D→SA→List Prop→Option (D × List Nat × SA × List Prop)):List D→SA→List Prop→Option (List D × List Nat × SA × List Prop)
 | [],a,p=>some ([],[],a,p)
 | d::ds,a,p=>match g d a p with
  | some (d,r,a,p)=>match snapAllP g ds a p with
   | some (ds,r',a,p)=>some (d::ds,r++r',a,p)
   | none=>none
  | none=>none
def hitS (o f:Nat):SA→Option (D × List Nat × SA)
 | (o',d,r)::a=>match eqb o o' && ltb 1 f with | true=>some (d,r,a) | false=>none
 | []=>none
def snapP (gO:Nat→Option Ob):Nat→D→SA→List Prop→Option (D × List Nat × SA × List Prop)
 | 0,_,_,_=>none
 | f+1,d,a,p=>match d with
  | .agg cs=>match snapAllP (snapP gO f) cs a p with | some (cs,r,a,p)=>some (.agg cs,r,a,p) | none=>none
  | .tup cs=>match snapAllP (snapP gO f) cs a p with | some (cs,r,a,p)=>some (.tup cs,r,a,p) | none=>none
  | .fn g x y=>match snapAllP (snapP gO f) x a p with
   | some (x,r,a,p)=>match snapAllP (snapP gO f) y a p with
    | some (y,r',a,p)=>some (.fn g x y,r++r',a,p)
    | none=>none
   | none=>none
  | .lref o i sz sub=>if sub=0 then match gO o with
   | some ob=>if ob.sz=sz then match ob.els[i]? with
    | some e=>match snapP gO f e a p with | some (e,r,a,p)=>some (.ptr e,o::r,a,p) | none=>none
    | none=>none
    else none
   | none=>none
   else none
  | .lsl o off len sz cap=>match hitS o f a with
   | some (d,r,a)=>some (d,r,a,(∀ n,snap gO (n+3) (.lsl o off len sz cap)=some (d,r))::p)
   | none=>match snap gO (f+1) (.lsl o off len sz cap) with | some (d,r)=>some (d,r,a,p) | none=>none
  | d=>match snap gO (f+1) d with | some (d,r)=>some (d,r,a,p) | none=>none
theorem snapAllP_sound {gO:Nat→Option Ob} {f:Nat} (ih:∀ d a p d' r a' p',snapP gO f d a p=some (d',r,a',p')→allP p'→snap gO f d=some (d',r)∧allP p) :
  ∀ ds a p ds' r a' p',snapAllP (snapP gO f) ds a p=some (ds',r,a',p')→allP p'→snapAll (snap gO f) ds=some (ds',r)∧allP p
 | [],a,p,ds',r,a',p',h,hp=>by simp only [snapAllP,Option.some.injEq,Prod.mk.injEq] at h; obtain ⟨rfl,rfl,rfl,rfl⟩:=h; exact ⟨rfl,hp⟩
 | d::ds,a,p,ds',r,a',p',h,hp=>by
  simp only [snapAllP] at h
  split at h
  ·rename_i d1 r1 a1 p1 h1
   split at h
   ·rename_i ds2 r2 a2 p2 h2
    cases h
    obtain ⟨h3,h4⟩:=snapAllP_sound ih _ _ _ _ _ _ _ h2 hp
    obtain ⟨h5,h6⟩:=ih _ _ _ _ _ _ _ h1 h4
    simp only [snapAll,h5,h3]
    exact ⟨trivial,h6⟩
   ·cases h
  ·cases h
theorem snapP_sound {gO:Nat→Option Ob}:∀ (f:Nat) (d:D) (a:SA) (p:List Prop) (d':D) (r:List Nat) (a':SA) (p':List Prop),snapP gO f d a p=some (d',r,a',p')→allP p'→snap gO f d=some (d',r)∧allP p
 | 0,_,_,_,_,_,_,_,h,_=>by simp [snapP] at h
 | f+1,d,a,p,d',r,a',p',h,hp=>by
  have ih:=snapAllP_sound (gO:=gO) (f:=f) (fun d a p d' r a' p' h hp=>snapP_sound f d a p d' r a' p' h hp)
  unfold snapP at h
  split at h
  ·split at h
   ·rename_i h1
    cases h
    obtain ⟨h2,h3⟩:=ih _ _ _ _ _ _ _ h1 hp
    simp only [snap,h2]
    exact ⟨trivial,h3⟩
   ·cases h
  ·split at h
   ·rename_i h1
    cases h
    obtain ⟨h2,h3⟩:=ih _ _ _ _ _ _ _ h1 hp
    simp only [snap,h2]
    exact ⟨trivial,h3⟩
   ·cases h
  ·split at h
   ·rename_i h1
    split at h
    ·rename_i h2
     cases h
     obtain ⟨h3,h4⟩:=ih _ _ _ _ _ _ _ h2 hp
     obtain ⟨h5,h6⟩:=ih _ _ _ _ _ _ _ h1 h4
     simp only [snap,h3,h5]
     exact ⟨trivial,h6⟩
    ·cases h
   ·cases h
  ·split at h
   ·rename_i hsub
    split at h
    ·rename_i ob hob
     split at h
     ·rename_i hsz
      split at h
      ·rename_i e he
       split at h
       ·rename_i h1
        cases h
        obtain ⟨h2,h3⟩:=snapP_sound f _ _ _ _ _ _ _ h1 hp
        simp only [snap,hsub,hob,hsz,he,h2,if_true]
        exact ⟨trivial,h3⟩
       ·cases h
      ·cases h
     ·cases h
    ·cases h
   ·cases h
  ·split at h
   ·rename_i hh
    cases h
    unfold hitS at hh
    split at hh
    ·split at hh
     ·rename_i hc
      cases hh
      simp only [Bool.and_eq_true] at hc
      have hf:=ltb_iff.1 hc.2
      obtain ⟨m,rfl⟩:∃ m,f=m+2:=⟨f - 2,by omega⟩
      exact ⟨hp.1 m,hp.2⟩
     ·cases hh
    ·cases hh
   ·split at h
    ·rename_i h1
     cases h
     exact ⟨h1,hp⟩
    ·cases h
  ·split at h
   ·rename_i h1
    cases h
    exact ⟨h1,hp⟩
   ·cases h
def pureSO (C:Cfg) (S:Sm) (gT:Nat→D) (objs:List (Nat × Ob)) (nxt:Nat) (o:Op) (d:D) (fl:Bool) (a:SA):Option (Out × Prop):=match o with
 | .call c=>match c.callee with
  | .value f=>match zQ C gT f with
   | .fn g first captured=>match g with
    | .func K=>match C.fn K with
     | some _=>match C.inl K with
      | true=>none
      | false=>match snapAllP (snapP (zB objs) fuelD) (first++c.args.toList.map (zQ C gT)++captured) a [] with
       | some (args',ids,_,p)=>some (⟨d,match fl with | true=>[] | false=>freeze (zB objs) ids,ids,nxt⟩,flat fuelD d=fl∧allP p∧S.pure K args'=some d)
       | none=>none
     | none=>none
    | _=>none
   | _=>none
  | _=>none
 | _=>none
def pureO (C:Cfg) (S:Sm) (gT:Nat→D) (objs:List (Nat × Ob)) (nxt:Nat) (o:Op) (d:D):Option (Out × Prop):=match o with
 | .call c=>match c.callee with
  | .value f=>match zQ C gT f with
   | .fn g first captured=>match g with
    | .func K=>match C.fn K with
     | some _=>match C.inl K with
      | true=>none
      | false=>match snapAll (snap (zB objs) fuelD) (first++c.args.toList.map (zQ C gT)++captured) with
       | some (args',ids)=>match ids with
        | []=>some (⟨d,[],[],nxt⟩,S.pure K args'=some d)
        | i::ids=>some (⟨d,if flat fuelD d then [] else freeze (zB objs) (i::ids),i::ids,nxt⟩,S.pure K args'=some d)
       | none=>none
     | none=>none
    | _=>none
   | _=>none
  | _=>none
 | _=>none
def inlO (C:Cfg) (S:Sm) (gT:Nat→D) (objs:List (Nat × Ob)) (nxt:Nat) (o:Op) (d:D) (objs':List (Nat × Ob)) (nxt':Nat):Option (Out × Prop):=match o with
 | .call c=>match c.callee with
  | .value f=>match zQ C gT f with
   | .fn g first captured=>match g with
    | .func K=>match C.fn K with
     | some _=>match C.inl K with
      | false=>none
      | true=>match idsL (idsD fuelD) (first++c.args.toList.map (zQ C gT)++captured) with
       | some l=>match ze objs 256 l [] with
        | some ids=>match allBelow nxt ids with
         | true=>match ltb nxt' nxt with
          | false=>some (⟨d,chgUpd (first++c.args.toList.map (zQ C gT)++captured) objs objs' ids (ids++keysO objs'),ids,nxt'⟩,S.inl K (first++c.args.toList.map (zQ C gT)++captured) (only ids objs) nxt=some (d,objs',nxt'))
          | true=>none
         | false=>none
        | none=>none
       | none=>none
     | none=>none
    | _=>none
   | _=>none
  | _=>none
 | _=>none
def inlSO (C:Cfg) (S:Sm) (gT:Nat→D) (objs:List (Nat × Ob)) (nxt:Nat) (o:Op) (ids:List Nat) (d:D) (objs':List (Nat × Ob)) (nxt':Nat):Option (Out × Prop):=match o with
 | .call c=>match c.callee with
  | .value f=>match zQ C gT f with
   | .fn g first captured=>match g with
    | .func K=>match C.fn K with
     | some _=>match C.inl K with
      | false=>none
      | true=>match idsL (idsD fuelD) (first++c.args.toList.map (zQ C gT)++captured) with
       | some l=>match allBelow nxt ids with
        | true=>match ltb nxt' nxt with
         | false=>some (⟨d,chgUpd (first++c.args.toList.map (zQ C gT)++captured) objs objs' ids (ids++keysO objs'),ids,nxt'⟩,ze objs 256 l []=some ids∧S.inl K (first++c.args.toList.map (zQ C gT)++captured) (only ids objs) nxt=some (d,objs',nxt'))
         | true=>none
        | false=>none
       | none=>none
     | none=>none
    | _=>none
   | _=>none
  | _=>none
 | _=>none
def elO (C:Cfg) (gT:Nat→D) (nxt:Nat) (o:Op) (d:D):Option (Out × Prop):=match o with
 | .indexAddr t x ix=>match C.ty t with
  | some ty=>match ty.kind with
   | .slice e=>match C.ty e with
    | some te=>match intOfD (zQ C gT ix) with
     | some i=>match zQ C gT x with
      | .sl nl els sz _=>some (⟨.ptr d,[],[],nxt⟩,0≤i∧nl=false∧te.size=sz∧els[i.toNat]?=some d)
      | _=>none
     | none=>none
    | none=>none
   | _=>none
  | none=>none
 | _=>none
def optEq:Option Nat→Option Nat→Bool
 | none,none=>true
 | some a,some b=>eqb a b
 | _,_=>false
def storesIn (C:Cfg) (gT:Nat→D) (o:Op) (k:Nat):Bool:=match o with
 | .store _ x _=>match zQ C gT x with
  | .lref k' _ _ _=>eqb k' k
  | _=>false
 | _=>false
def opO (C:Cfg) (S:Sm) (gT:Nat→D) (objs:List (Nat × Ob)) (nxt:Nat) (o:Oper) (ors:List Ora) (acc:List Prop):Option (Out × List Ora × List Prop):=match ors with
 | .op t r::ors'=>match optEq o.dst t with
  | true=>some (r,ors',(evOp C S gT objs nxt o=some r)::acc)
  | false=>match evOp C dead gT objs nxt o with
   | some r'=>some (r',.op t r::ors',acc)
   | none=>none
 | .stS k r::ors'=>match storesIn C gT o.op k with
  | true=>some (r,ors',(evOp C S gT objs nxt o=some r)::acc)
  | false=>match evOp C dead gT objs nxt o with
   | some r'=>some (r',.stS k r::ors',acc)
   | none=>none
 | .pure d::ors'=>match pureO C S gT objs nxt o.op d with
  | some (r,P)=>some (r,ors',P::acc)
  | none=>match evOp C dead gT objs nxt o with
   | some r=>some (r,.pure d::ors',acc)
   | none=>none
 | .pureS d fl a::ors'=>match pureSO C S gT objs nxt o.op d fl a with
  | some (r,P)=>some (r,ors',P::acc)
  | none=>match evOp C dead gT objs nxt o with
   | some r=>some (r,.pureS d fl a::ors',acc)
   | none=>none
 | .inl d objs' nxt'::ors'=>match inlO C S gT objs nxt o.op d objs' nxt' with
  | some (r,P)=>some (r,ors',P::acc)
  | none=>match evOp C dead gT objs nxt o with
   | some r=>some (r,.inl d objs' nxt'::ors',acc)
   | none=>none
 | .inlS ids d objs' nxt'::ors'=>match inlSO C S gT objs nxt o.op ids d objs' nxt' with
  | some (r,P)=>some (r,ors',P::acc)
  | none=>match evOp C dead gT objs nxt o with
   | some r=>some (r,.inlS ids d objs' nxt'::ors',acc)
   | none=>none
 | .el d::ors'=>match elO C gT nxt o.op d with
  | some (r,P)=>some (r,ors',P::acc)
  | none=>match evOp C dead gT objs nxt o with
   | some r=>some (r,.el d::ors',acc)
   | none=>none
 | ors'=>match evOp C dead gT objs nxt o with
  | some r=>some (r,ors',acc)
  | none=>none
def isB (o:Op):Bool:=match o with
 | .binOp _ _ _ _ _=>true
 | .call _=>true
 | .extract _ _=>true
 | .field _ _ _=>true
 | .load _ _=>true
 | .index _ _ _=>true
 | _=>false
def boolOf (d:D):Option Bool:=match d with
 | .val v=>match v with
  | .bool t=>some t
  | _=>none
 | _=>none
def decO (o:Oper) (d:D) (ors:List Ora) (acc:List Prop):D × List Ora × List Prop:=match ors with
 | .rw t d'::ors'=>match optEq o.dst (some t) with
  | true=>(d',ors',(d=d')::acc)
  | false=>(d,.rw t d'::ors',acc)
 | .dec b::ors'=>match isB o.op with
  | true=>match boolOf d with
   | some t=>(B b,ors',(t=b)::acc)
   | none=>(d,.dec b::ors',acc)
  | false=>(d,.dec b::ors',acc)
 | ors'=>(d,ors',acc)
def evOpsO (C:Cfg) (S:Sm) (ops:Array Oper):List Oper→St→List Ora→List Prop→Option (St × List Ora × List Prop)
 | [],st,ors,acc=>some (st,ors,acc)
 | o::l,st,ors,acc=>match wantD ops (get st.tmps) o.guard with
  | some true=>match opO C S (get st.tmps) st.objs st.nxt o ors acc with
   | some (r,ors1,acc1)=>match decO o r.d ors1 acc1 with
    | (d,ors2,acc2)=>evOpsO C S ops l ⟨st.n,putT st.n st.tmps o.dst d,applyUpd r.wr st.objs,r.nxt,st.pin⟩ ors2 acc2
   | none=>none
  | some false=>evOpsO C S ops l ⟨st.n,putT st.n st.tmps o.dst (.tup []),st.objs,st.nxt,st.pin⟩ ors acc
  | none=>none
def evOpsTO (C:Cfg) (S:Sm) (ops:Array Oper):List Oper→St→List Ora→List Prop→Option (St × Trace × List Ora × List Prop)
 | [],st,ors,acc=>some (st,[],ors,acc)
 | o::l,st,ors,acc=>match wantD ops (get st.tmps) o.guard with
  | some true=>match opO C S (get st.tmps) st.objs st.nxt o ors acc with
   | some (r,ors1,acc1)=>match decO o r.d ors1 acc1 with
    | (d,ors2,acc2)=>match evOpsTO C S ops l ⟨st.n,putT st.n st.tmps o.dst d,applyUpd r.wr st.objs,r.nxt,st.pin⟩ ors2 acc2 with
     | some (st',tr,ors3,acc3)=>some (st',(r.rd,r.wr.map (·.1))::tr,ors3,acc3)
     | none=>none
   | none=>none
  | some false=>match evOpsTO C S ops l ⟨st.n,putT st.n st.tmps o.dst (.tup []),st.objs,st.nxt,st.pin⟩ ors acc with
   | some (st',tr,ors3,acc3)=>some (st',([],[])::tr,ors3,acc3)
   | none=>none
  | none=>none
def evCodeO (C:Cfg) (S:Sm) (f:FuncId):Code→St→List Ora→List Prop→Option (Exit × St × List Ora × List Prop)
 | .skip,st,ors,acc=>some (.normal,st,ors,acc)
 | .label _,st,ors,acc=>some (.normal,st,ors,acc)
 | .ret,st,ors,acc=>some (.ret,st,ors,acc)
 | .exit id,st,ors,acc=>some (.exit id,st,ors,acc)
 | .region _ ops draw,st,ors,acc=>match draw with
  | true=>match evOpsTO C S ops ops.toList st ors acc with
   | some (st',tr,ors1,acc')=>match ors1 with
    | .reg::ors'=>match traceOK ops tr with
     | true=>some (.normal,st',ors',(regOK ops=true)::acc')
     | false=>none
    | ors'=>match regOK ops && traceOK ops tr with
     | true=>some (.normal,st',ors',acc')
     | false=>none
   | none=>none
  | false=>match evOpsO C S ops ops.toList st ors acc with
   | some (st',ors',acc')=>some (.normal,st',ors',acc')
   | none=>none
 | .seq a b,st,ors,acc=>match evCodeO C S f a st ors acc with
  | some (.normal,st',ors',acc')=>evCodeO C S f b st' ors' acc'
  | r=>r
 | .cond c a b,st,ors,acc=>match boolOf (zQ C (get st.tmps) c) with
  | some true=>evCodeO C S f a st ors acc
  | some false=>evCodeO C S f b st ors acc
  | none=>none
 | .block id a,st,ors,acc=>match evCodeO C S f a st ors acc with
  | some (.exit id',st',ors',acc')=>match eqb id' id with
   | true=>some (.normal,st',ors',acc')
   | false=>some (.exit id',st',ors',acc')
  | r=>r
 | .loop a,st,ors,acc=>match ors with
  | .loop e st'::ors'=>match gc (C.keep f (firstRegion a)) st with
   | some st1=>some (e,st',ors',(S.loop f a st1=some (e,st'))::acc)
   | none=>none
  | .gloop st1 e st'::ors'=>some (e,st',ors',(S.loop f a st1=some (e,st'))::(gc (C.keep f (firstRegion a)) st=some st1)::acc)
  | _=>none
 | .scope a,st,ors,acc=>match evCodeO C S f a st ors acc with
  | some (.goto _,_,_,_)=>none
  | r=>r
 | .rangeFunc g ps assign body,st,ors,acc=>match noRange assign && noRange body with
  | true=>match zQ C (get st.tmps) g with
   | .fn g first captured=>match g with
    | .func K=>match C.fn K with
     | some _=>match ors with
      | .iter objs' nxt' p::ors'=>match exitOf p with
       | some e=>some (e,⟨st.n,st.tmps,objs',nxt',st.pin⟩,ors',(S.iter ⟨f,st.nxt,st.n,st.tmps,ps.toList,assign,body⟩ K (first++[.yld st.nxt]++captured) st.objs (st.nxt+1)=some (objs',nxt',p))::acc)
       | none=>none
      | _=>none
     | none=>none
    | _=>none
   | _=>none
  | false=>none
 | _,_,_,_=>none

section
variable {C:Cfg} {S:Sm} {gT:Nat→D} {objs:List (Nat × Ob)} {nxt:Nat}
theorem pureO_sound {o:Oper} {d:D} {r:Out} {P:Prop} (h:pureO C S gT objs nxt o.op d=some (r,P)) (hp:P):evOp C S gT objs nxt o=some r:=by
 unfold pureO at h
 unfold evOp
 split at h
 ·rename_i c ho
  simp only [ho]
  unfold callD
  split at h
  ·rename_i f hf
   simp only [hf]
   split at h
   ·rename_i g first captured hg
    simp only [hg]
    split at h
    ·rename_i K
     simp only []
     split at h
     ·rename_i fn hfn
      unfold callK
      simp only [hfn]
      split at h
      ·cases h
      ·rename_i hi
       rw [hi]
       simp only [Bool.false_eq_true,if_false]
       unfold callPure
       split at h
       ·rename_i args' ids hs
        split at h
        ·cases h
         rw [hs]
         simp only [hp,freeze,ite_self]
        ·cases h
         rw [hs]
         simp only [hp]
       ·cases h
     ·cases h
    ·cases h
   ·cases h
  ·cases h
 ·cases h
theorem pureSO_sound {o:Oper} {d:D} {fl:Bool} {a:SA} {r:Out} {P:Prop} (h:pureSO C S gT objs nxt o.op d fl a=some (r,P)) (hp:P):evOp C S gT objs nxt o=some r:=by
 unfold pureSO at h
 unfold evOp
 split at h
 ·rename_i c ho
  simp only [ho]
  unfold callD
  split at h
  ·rename_i f hf
   simp only [hf]
   split at h
   ·rename_i g first captured hg
    simp only [hg]
    split at h
    ·rename_i K
     simp only []
     split at h
     ·rename_i fn hfn
      unfold callK
      simp only [hfn]
      split at h
      ·cases h
      ·rename_i hi
       rw [hi]
       simp only [Bool.false_eq_true,if_false]
       unfold callPure
       split at h
       ·rename_i args' ids a' p hs
        cases h
        obtain ⟨h1,h2,h3⟩:=hp
        obtain ⟨h4,_⟩:=snapAllP_sound (fun d a p d' r a' p' h hp=>snapP_sound fuelD d a p d' r a' p' h hp) _ _ _ _ _ _ _ hs h2
        rw [h4]
        simp only [h3,h1]
        cases fl <;> rfl
       ·cases h
     ·cases h
    ·cases h
   ·cases h
  ·cases h
 ·cases h
theorem inlO_sound {o:Oper} {d:D} {objs':List (Nat × Ob)} {nxt':Nat} {r:Out} {P:Prop} (h:inlO C S gT objs nxt o.op d objs' nxt'=some (r,P)) (hp:P):evOp C S gT objs nxt o=some r:=by
 unfold inlO at h
 unfold evOp
 split at h
 ·rename_i c ho
  simp only [ho]
  unfold callD
  split at h
  ·rename_i f hf
   simp only [hf]
   split at h
   ·rename_i g first captured hg
    simp only [hg]
    split at h
    ·rename_i K
     simp only []
     split at h
     ·rename_i fn hfn
      unfold callK
      simp only [hfn]
      split at h
      ·cases h
      ·rename_i hi
       rw [hi]
       simp only [if_true]
       unfold callInl
       split at h
       ·rename_i l hl
        rw [hl]
        simp only []
        split at h
        ·rename_i ids hids
         rw [hids]
         simp only []
         split at h
         ·rename_i hb
          rw [hb]
          split at h
          ·rename_i hlt
           cases h
           simp only [cond_true,hp,hlt,cond_false]
          ·cases h
         ·cases h
        ·cases h
       ·cases h
     ·cases h
    ·cases h
   ·cases h
  ·cases h
 ·cases h
theorem inlSO_sound {o:Oper} {ids:List Nat} {d:D} {objs':List (Nat × Ob)} {nxt':Nat} {r:Out} {P:Prop} (h:inlSO C S gT objs nxt o.op ids d objs' nxt'=some (r,P)) (hp:P):evOp C S gT objs nxt o=some r:=by
 unfold inlSO at h
 unfold evOp
 split at h
 ·rename_i c ho
  simp only [ho]
  unfold callD
  split at h
  ·rename_i f hf
   simp only [hf]
   split at h
   ·rename_i g first captured hg
    simp only [hg]
    split at h
    ·rename_i K
     simp only []
     split at h
     ·rename_i fn hfn
      unfold callK
      simp only [hfn]
      split at h
      ·cases h
      ·rename_i hi
       rw [hi]
       simp only [if_true]
       unfold callInl
       split at h
       ·rename_i l hl
        rw [hl]
        simp only []
        split at h
        ·rename_i hb
         split at h
         ·rename_i hlt
          cases h
          rw [hp.1]
          simp only [hb,cond_true,hp.2,hlt,cond_false]
         ·cases h
        ·cases h
       ·cases h
     ·cases h
    ·cases h
   ·cases h
  ·cases h
 ·cases h
theorem elO_sound {o:Oper} {d:D} {r:Out} {P:Prop} (h:elO C gT nxt o.op d=some (r,P)) (hp:P):evOp C S gT objs nxt o=some r:=by
 unfold elO at h
 unfold evOp
 split at h
 ·rename_i t x ix ho
  simp only [ho]
  unfold evIndexAddr
  split at h
  ·rename_i ty hty
   simp only [hty]
   split at h
   ·rename_i e hk
    split at h
    ·rename_i te hte
     split at h
     ·rename_i i hi
      simp only [hi]
      split at h
      ·rename_i nl els sz cap hx
       cases h
       obtain ⟨h1,h2,h3,h4⟩:=hp
       rw [if_pos h1]
       simp only [hk,hte,hx,ixSlice,h2,h3,Bool.not_false,decide_true,Bool.and_self,if_true,h4,just]
      ·cases h
     ·cases h
    ·cases h
   ·cases h
  ·cases h
 ·cases h
theorem dead_evOp {o:Oper} {r:Out} (h:evOp C dead gT objs nxt o=some r):evOp C S gT objs nxt o=some r:=evOp_mono (dead_le S) h
theorem opO_sound {o:Oper} {ors ors':List Ora} {acc acc':List Prop} {r:Out} (h:opO C S gT objs nxt o ors acc=some (r,ors',acc')) (hp:allP acc'):evOp C S gT objs nxt o=some r∧allP acc:=by
 unfold opO at h
 split at h
 ·split at h
  ·cases h; exact ⟨hp.1,hp.2⟩
  ·split at h
   ·rename_i h1; cases h; exact ⟨dead_evOp h1,hp⟩
   ·cases h
 ·split at h
  ·cases h; exact ⟨hp.1,hp.2⟩
  ·split at h
   ·rename_i h1; cases h; exact ⟨dead_evOp h1,hp⟩
   ·cases h
 ·split at h
  ·rename_i h1; cases h; exact ⟨pureO_sound h1 hp.1,hp.2⟩
  ·split at h
   ·rename_i h1; cases h; exact ⟨dead_evOp h1,hp⟩
   ·cases h
 ·split at h
  ·rename_i h1; cases h; exact ⟨pureSO_sound h1 hp.1,hp.2⟩
  ·split at h
   ·rename_i h1; cases h; exact ⟨dead_evOp h1,hp⟩
   ·cases h
 ·split at h
  ·rename_i h1; cases h; exact ⟨inlO_sound h1 hp.1,hp.2⟩
  ·split at h
   ·rename_i h1; cases h; exact ⟨dead_evOp h1,hp⟩
   ·cases h
 ·split at h
  ·rename_i h1; cases h; exact ⟨inlSO_sound h1 hp.1,hp.2⟩
  ·split at h
   ·rename_i h1; cases h; exact ⟨dead_evOp h1,hp⟩
   ·cases h
 ·split at h
  ·rename_i h1; cases h; exact ⟨elO_sound h1 hp.1,hp.2⟩
  ·split at h
   ·rename_i h1; cases h; exact ⟨dead_evOp h1,hp⟩
   ·cases h
 ·split at h
  ·rename_i h1; cases h; exact ⟨dead_evOp h1,hp⟩
  ·cases h
theorem boolOf_some {d:D} {t:Bool} (h:boolOf d=some t):d=.val (.bool t):=by
 unfold boolOf at h
 split at h
 ·split at h
  ·cases h; rfl
  ·cases h
 ·cases h
theorem decO_sound {o:Oper} {d d':D} {ors ors':List Ora} {acc acc':List Prop} (h:decO o d ors acc=(d',ors',acc')) (hp:allP acc'):d'=d∧allP acc:=by
 unfold decO at h
 split at h
 ·split at h
  ·cases h; exact ⟨hp.1.symm,hp.2⟩
  ·cases h; exact ⟨rfl,hp⟩
 ·split at h
  ·split at h
   ·rename_i t ht
    cases h
    rw [boolOf_some ht,hp.1]; exact ⟨rfl,hp.2⟩
   ·cases h; exact ⟨rfl,hp⟩
  ·cases h; exact ⟨rfl,hp⟩
 ·cases h; exact ⟨rfl,hp⟩
theorem evOpsO_sound {ops:Array Oper}:∀ (l:List Oper) (st st':St) (ors ors':List Ora) (acc acc':List Prop),evOpsO C S ops l st ors acc=some (st',ors',acc')→allP acc'→evOps C S ops l st=some st'∧allP acc
 | [],_,_,_,_,_,_,h,hp=>by simp only [evOpsO,Option.some.injEq,Prod.mk.injEq] at h; obtain ⟨rfl,rfl,rfl⟩:=h; exact ⟨rfl,hp⟩
 | o::l,st,st',ors,ors',acc,acc',h,hp=>by
  simp only [evOpsO] at h
  simp only [evOps]
  split at h
  ·rename_i hw
   split at h
   ·rename_i r ors1 acc1 hop
    obtain ⟨d,ors2,acc2,hdec⟩:∃ d o2 a2,decO o r.d ors1 acc1=(d,o2,a2):=⟨_,_,_,rfl⟩
    rw [hdec] at h
    simp only [] at h
    obtain ⟨h1,h2⟩:=evOpsO_sound l _ _ _ _ _ _ h hp
    obtain ⟨rfl,h3⟩:=decO_sound hdec h2
    obtain ⟨h4,h5⟩:=opO_sound hop h3
    simp only [hw,h4]
    exact ⟨h1,h5⟩
   ·cases h
  ·rename_i hw
   obtain ⟨h1,h2⟩:=evOpsO_sound l _ _ _ _ _ _ h hp
   simp only [hw]
   exact ⟨h1,h2⟩
  ·cases h
theorem evOpsTO_sound {ops:Array Oper}:∀ (l:List Oper) (st st':St) (tr:Trace) (ors ors':List Ora) (acc acc':List Prop),evOpsTO C S ops l st ors acc=some (st',tr,ors',acc')→allP acc'→evOpsT C S ops l st=some (st',tr)∧allP acc
 | [],_,_,_,_,_,_,_,h,hp=>by simp only [evOpsTO,Option.some.injEq,Prod.mk.injEq] at h; obtain ⟨rfl,rfl,rfl,rfl⟩:=h; exact ⟨rfl,hp⟩
 | o::l,st,st',tr,ors,ors',acc,acc',h,hp=>by
  simp only [evOpsTO] at h
  simp only [evOpsT]
  split at h
  ·rename_i hw
   split at h
   ·rename_i r ors1 acc1 hop
    obtain ⟨d,ors2,acc2,hdec⟩:∃ d o2 a2,decO o r.d ors1 acc1=(d,o2,a2):=⟨_,_,_,rfl⟩
    rw [hdec] at h
    simp only [] at h
    split at h
    ·rename_i st1 tr1 ors3 acc3 hrest
     cases h
     obtain ⟨h1,h2⟩:=evOpsTO_sound l _ _ _ _ _ _ _ hrest hp
     obtain ⟨rfl,h3⟩:=decO_sound hdec h2
     obtain ⟨h4,h5⟩:=opO_sound hop h3
     simp only [hw,h4,h1]
     exact ⟨trivial,h5⟩
    ·cases h
   ·cases h
  ·rename_i hw
   split at h
   ·rename_i st1 tr1 ors3 acc3 hrest
    cases h
    obtain ⟨h1,h2⟩:=evOpsTO_sound l _ _ _ _ _ _ _ hrest hp
    simp only [hw,h1]
    exact ⟨trivial,h2⟩
   ·cases h
  ·cases h
theorem evCodeO_sound {f:FuncId}:∀ (c:Code) (st:St) (e:Exit) (st':St) (ors ors':List Ora) (acc acc':List Prop),evCodeO C S f c st ors acc=some (e,st',ors',acc')→allP acc'→yo C S f c st=some (e,st')∧allP acc:=by
 intro c
 induction c with
 | region id ops draw =>
  intro st e st' ors ors' acc acc' h hp
  simp only [evCodeO] at h
  simp only [yo]
  split at h
  ·split at h
   ·rename_i st1 tr ors1 acc1 h1
    split at h
    ·split at h
     ·rename_i hc
      cases h
      obtain ⟨hr,hp⟩:=hp
      obtain ⟨h2,h3⟩:=evOpsTO_sound _ _ _ _ _ _ _ _ h1 hp
      simp only [if_true,h2,hr,hc,Bool.and_self]
      exact ⟨trivial,h3⟩
     ·cases h
    ·split at h
     ·rename_i hc
      cases h
      obtain ⟨h2,h3⟩:=evOpsTO_sound _ _ _ _ _ _ _ _ h1 hp
      simp only [if_true,h2,hc]
      exact ⟨trivial,h3⟩
     ·cases h
   ·cases h
  ·split at h
   ·rename_i st1 ors1 acc1 h1
    cases h
    obtain ⟨h2,h3⟩:=evOpsO_sound _ _ _ _ _ _ _ h1 hp
    simp only [Bool.false_eq_true,if_false,h2]
    exact ⟨trivial,h3⟩
   ·cases h
 | seq x y ihx ihy =>
  intro st e st' ors ors' acc acc' h hp
  simp only [evCodeO] at h
  simp only [yo]
  split at h
  ·rename_i st1 ors1 acc1 h1
   obtain ⟨h2,h3⟩:=ihy _ _ _ _ _ _ _ h hp
   obtain ⟨h4,h5⟩:=ihx _ _ _ _ _ _ _ h1 h3
   simp only [h4]
   exact ⟨h2,h5⟩
  ·rename_i hn
   obtain ⟨h4,h5⟩:=ihx _ _ _ _ _ _ _ h hp
   rw [h4]
   refine ⟨?_,h5⟩
   split
   ·rename_i st1 h6
    cases h6
    exact absurd h (hn _ _ _)
   ·rfl
 | cond c x y ihx ihy =>
  intro st e st' ors ors' acc acc' h hp
  simp only [evCodeO] at h
  simp only [yo]
  split at h
  ·rename_i ht
   rw [boolOf_some ht]
   exact ihx _ _ _ _ _ _ _ h hp
  ·rename_i ht
   rw [boolOf_some ht]
   exact ihy _ _ _ _ _ _ _ h hp
  ·cases h
 | block id x ih =>
  intro st e st' ors ors' acc acc' h hp
  simp only [evCodeO] at h
  simp only [yo]
  split at h
  ·rename_i id' st1 ors1 acc1 h1
   split at h
   ·rename_i hid
    cases h
    obtain ⟨h4,h5⟩:=ih _ _ _ _ _ _ _ h1 hp
    rw [h4]
    exact ⟨by simp only [yz.1 hid,if_true],h5⟩
   ·rename_i hid
    cases h
    obtain ⟨h4,h5⟩:=ih _ _ _ _ _ _ _ h1 hp
    rw [h4]
    exact ⟨by simp only [eqb_false.1 hid,if_false],h5⟩
  ·rename_i hn
   obtain ⟨h4,h5⟩:=ih _ _ _ _ _ _ _ h hp
   rw [h4]
   refine ⟨?_,h5⟩
   split
   ·rename_i id' st1 h6
    cases h6
    exact absurd h (hn _ _ _ _)
   ·rfl
 | loop x ih =>
  intro st e st' ors ors' acc acc' h hp
  simp only [evCodeO] at h
  simp only [yo]
  split at h
  ·split at h
   ·rename_i st1 hg
    cases h
    rw [hg]
    exact ⟨hp.1,hp.2⟩
   ·cases h
  ·cases h
   rw [hp.2.1]
   exact ⟨hp.1,hp.2.2⟩
  ·cases h
 | scope x ih =>
  intro st e st' ors ors' acc acc' h hp
  simp only [evCodeO] at h
  simp only [yo]
  split at h
  ·cases h
  ·rename_i hn
   obtain ⟨h4,h5⟩:=ih _ _ _ _ _ _ _ h hp
   rw [h4]
   refine ⟨?_,h5⟩
   split
   ·rename_i l st1 h6
    cases h6
    exact absurd h (hn _ _ _ _)
   ·rfl
 | rangeFunc g ps x y ihx ihy =>
  intro st e st' ors ors' acc acc' h hp
  simp only [evCodeO] at h
  simp only [yo]
  split at h
  ·rename_i hnr
   rw [if_pos hnr]
   split at h
   ·rename_i g' first captured hg
    simp only [hg]
    split at h
    ·rename_i K
     simp only []
     split at h
     ·rename_i fn hfn
      simp only [hfn]
      split at h
      ·rename_i objs' nxt' p ors1
       split at h
       ·rename_i e1 he
        cases h
        rw [hp.1]
        simp only [he]
        exact ⟨trivial,hp.2⟩
       ·cases h
      ·cases h
     ·cases h
    ·cases h
   ·cases h
  ·cases h
 | skip=>intro st e st' ors ors' acc acc' h hp; simp only [evCodeO,Option.some.injEq,Prod.mk.injEq] at h; obtain ⟨rfl,rfl,rfl,rfl⟩:=h; exact ⟨rfl,hp⟩
 | label l=>intro st e st' ors ors' acc acc' h hp; simp only [evCodeO,Option.some.injEq,Prod.mk.injEq] at h; obtain ⟨rfl,rfl,rfl,rfl⟩:=h; exact ⟨rfl,hp⟩
 | ret=>intro st e st' ors ors' acc acc' h hp; simp only [evCodeO,Option.some.injEq,Prod.mk.injEq] at h; obtain ⟨rfl,rfl,rfl,rfl⟩:=h; exact ⟨rfl,hp⟩
 | exit id=>intro st e st' ors ors' acc acc' h hp; simp only [evCodeO,Option.some.injEq,Prod.mk.injEq] at h; obtain ⟨rfl,rfl,rfl,rfl⟩:=h; exact ⟨rfl,hp⟩
 | _=>intro st e st' ors ors' acc acc' h hp; simp only [evCodeO] at h; cases h
end

def endO (C:Cfg) (fn:Func) (e:Exit) (st:St):Option (D × List (Nat × Ob) × Nat):=match e with
 | .normal=>match resAll C st fn.results.toList with | some ds=>some (tupOf ds,st.objs,st.nxt) | none=>none
 | .ret=>match resAll C st fn.results.toList with | some ds=>some (tupOf ds,st.objs,st.nxt) | none=>none
 | _=>none
def fnO (C:Cfg) (S:Sm) (K:FuncId) (args:List D) (objs:List (Nat × Ob)) (nxt:Nat) (ors:List Ora):Option (D × List (Nat × Ob) × Nat × List Prop):=match C.fn K with
 | some fn=>match fn.body with
  | some c=>match evCodeO C S K c ⟨max fn.ntmps args.length,number 0 args,objs,nxt,nxt⟩ ors [] with
   | some (e,st,[],acc)=>match endO C fn e st with
    | some (d,objs',nxt')=>some (d,objs',nxt',acc)
    | none=>none
   | _=>none
  | none=>none
 | none=>none
def fnPO (C:Cfg) (S:Sm) (K:FuncId) (args:List D) (ors:List Ora):Option (D × Prop):=match C.ext K with
 | some _=>none
 | none=>match fnO C S K args [] 0 ors with
  | some (d,objs,_,acc)=>match snap (zB objs) fuelD d with
   | some (d,_)=>some (d,allP acc)
   | none=>none
  | none=>none
def fnSO (C:Cfg) (S:Sm) (K:FuncId) (args:List D) (ors:List Ora) (a:SA):Option (D × Prop):=match C.ext K with
 | some _=>none
 | none=>match fnO C S K args [] 0 ors with
  | some (d,objs,_,acc)=>match snapP (zB objs) fuelD d a acc with
   | some (d,_,_,acc)=>some (d,allP acc)
   | none=>none
  | none=>none
def fnIO (C:Cfg) (S:Sm) (K:FuncId) (args:List D) (objs:List (Nat × Ob)) (nxt:Nat) (ors:List Ora):Option (D × List (Nat × Ob) × Nat × Prop):=match C.xinl K with
 | some _=>none
 | none=>match fnO C S K args objs nxt ors with
  | some (d,objs',nxt',acc)=>some (d,objs',nxt',allP acc)
  | none=>none
section
variable {C:Cfg} {K:FuncId} {args:List D} {objs objs':List (Nat × Ob)} {nxt nxt':Nat} {d:D} {acc:List Prop} {P:Prop}
theorem fnO_sound {S:Sm} {ors:List Ora} (h:fnO C S K args objs nxt ors=some (d,objs',nxt',acc)) (hp:allP acc):runFn C S K args objs nxt=some (d,objs',nxt'):=by
 unfold fnO at h
 unfold runFn
 split at h
 ·rename_i fn hfn
  split at h
  ·rename_i c hc
   simp only [hfn,hc]
   split at h
   ·rename_i e st acc1 hev
    split at h
    ·rename_i d1 objs1 nxt1 he
     cases h
     obtain ⟨h1,_⟩:=evCodeO_sound _ _ _ _ _ _ _ _ hev hp
     rw [h1]
     cases e <;> first | exact he | (simp only [endO] at he; cases he)
    ·cases h
   ·cases h
  ·cases h
 ·cases h
theorem zu (ors:List Ora) (hp:P) (h:fnPO C (lim C) K args ors=some (d,P)):(lim C).pure K args=some d:=by
 refine pure_of ?_
 unfold fnPO at h
 unfold runPure
 split at h
 ·cases h
 ·rename_i hx
  simp only [hx]
  split at h
  ·rename_i d0 objs0 n0 acc0 h0
   split at h
   ·rename_i d1 r1 hs
    cases h
    rw [fnO_sound h0 hp]
    simp only [hs]
   ·cases h
  ·cases h
theorem po_pureS (ors:List Ora) (a:SA) (hp:P) (h:fnSO C (lim C) K args ors a=some (d,P)):(lim C).pure K args=some d:=by
 refine pure_of ?_
 unfold fnSO at h
 unfold runPure
 split at h
 ·cases h
 ·rename_i hx
  simp only [hx]
  split at h
  ·rename_i d0 objs0 n0 acc0 h0
   split at h
   ·rename_i d1 r1 a1 p1 hs
    cases h
    obtain ⟨h1,h2⟩:=snapP_sound _ _ _ _ _ _ _ _ hs hp
    rw [fnO_sound h0 h2]
    simp only [h1]
   ·cases h
  ·cases h
theorem zH (ors:List Ora) (hp:P) (h:fnIO C (lim C) K args objs nxt ors=some (d,objs',nxt',P)):(lim C).inl K args objs nxt=some (d,objs',nxt'):=by
 refine inl_of ?_
 unfold fnIO at h
 unfold runInl
 split at h
 ·cases h
 ·rename_i hx
  simp only [hx]
  split at h
  ·rename_i h0
   cases h
   exact fnO_sound h0 hp
  ·cases h
end
def turnO (C:Cfg) (S:Sm) (f:FuncId) (a:Code) (st:St) (ors:List Ora):Option (St × Prop):=match evCodeO C S f a st ors [] with
 | some (.normal,st',[],acc)=>match gc (C.keep f (firstRegion a)) st' with
  | some st1=>some (st1,allP acc)
  | none=>none
 | _=>none
def roundO (C:Cfg) (S:Sm) (f:FuncId) (a:Code) (st:St) (ors:List Ora):Option (St × Prop):=match evCodeO C S f a st ors [] with
 | some (.normal,st',[],acc)=>some (st',allP acc)
 | _=>none
def isNormal:Exit→Bool
 | .normal=>true
 | _=>false
def lastO (C:Cfg) (S:Sm) (f:FuncId) (a:Code) (st:St) (ors:List Ora):Option (Exit × St × Prop):=match evCodeO C S f a st ors [] with
 | some (e,st',[],acc)=>match isNormal e with
  | true=>none
  | false=>some (e,st',allP acc)
 | _=>none
section
variable {C:Cfg} {f:FuncId} {a:Code} {st st1 st':St} {e:Exit} {q:Exit × St} {P:Prop}
theorem po_turn (ors:List Ora) (hp:P) (hl:(lim C).loop f a st1=some q) (h:turnO C (lim C) f a st ors=some (st1,P)):(lim C).loop f a st=some q:=by
 refine loop_of ?_
 unfold turnO at h
 unfold runLoop
 split at h
 ·rename_i st2 acc2 hev
  split at h
  ·rename_i st3 hg
   cases h
   rw [(evCodeO_sound _ _ _ _ _ _ _ _ hev hp).1]
   simp only [hg,hl]
  ·cases h
 ·cases h
theorem zR {ks:List Nat} (ors:List Ora) (hp:P) (hk:C.keep f (firstRegion a)=ks) (hg:gc ks st'=some st1) (hl:(lim C).loop f a st1=some q) (h:roundO C (lim C) f a st ors=some (st',P)):(lim C).loop f a st=some q:=by
 refine loop_of ?_
 unfold roundO at h
 unfold runLoop
 split at h
 ·rename_i st2 acc2 hev
  cases h
  rw [(evCodeO_sound _ _ _ _ _ _ _ _ hev hp).1]
  simp only [hk,hg,hl]
 ·cases h
theorem gc_of {ks:List Nat} (hk:C.keep f (firstRegion a)=ks) (hg:gc ks st=some st1):gc (C.keep f (firstRegion a)) st=some st1:=by rw [hk]; exact hg
theorem yc (ors:List Ora) (hp:P) (h:lastO C (lim C) f a st ors=some (e,st',P)):(lim C).loop f a st=some (e,st'):=by
 refine loop_of ?_
 unfold lastO at h
 unfold runLoop
 split at h
 ·rename_i e1 st2 acc2 hev
  split at h
  ·cases h
  ·rename_i hn
   cases h
   rw [(evCodeO_sound _ _ _ _ _ _ _ _ hev hp).1]
   cases e <;> first | rfl | (simp [isNormal] at hn)
 ·cases h
theorem zY {S:Sm} {α:Type} {L v:α} {q:α→Exit × St} (h:S.loop f a st=some (q L)) (e:L=v):S.loop f a st=some (q v):=by rw [← e]; exact h
end

structure GS (α:Type) where
 nl:Bool
 l:List α
 wf:nl=true→l=[]
def GS.nil {α:Type}:GS α:=⟨true,[],(fun _=>rfl)⟩
def GS.some {α:Type} (l:List α):GS α:=⟨false,l,(fun h=>by cases h)⟩
def zsl (b:Bool) (n:Nat):Nat:=match b with | true=>0 | false=>n
def GS.D {α:Type} (f:α→VS.D) (k:Nat) (s:GS α):VS.D:=.sl s.nl (s.l.map f) (zsl s.nl k) none
abbrev w64 (n:Int):Int:=IntKind.i64.wrap n
theorem zO {α:Type} (f:α→VS.D) (s:GS α):I (if s.nl then 0 else (((s.l.map f).length:Nat):Int))=I ((s.l.length:Nat):Int):=by
 cases h:s.nl with
 | true=>rw [s.wf h]; simp
 | false=>simp
theorem w64_eq {n:Int} (h1:-9223372036854775808≤n) (h2:n≤9223372036854775807):w64 n=n:=by
 unfold w64 IntKind.wrap
 have hb:IntKind.i64.bits=64:=rfl
 simp only [hb]
 first
 | (simp [IntKind.signed]; omega)
 | omega
theorem ya {i:Nat} (h:i < 9223372036854775807):I (w64 (((i:Nat):Int)+1))=I (((i+1:Nat):Nat):Int):=by rw [w64_eq (by omega) (by omega)]; rfl
theorem el_at {α:Type} {f:α→VS.D} {s:GS α} {x:α} {rest:List α} {i k:Nat} (h:s.l.drop i=x::rest):(0:Int)≤((i:Nat):Int)∧s.nl=false∧k=zsl s.nl k∧(s.l.map f)[((i:Nat):Int).toNat]?=Option.some (f x):=by
 have hx:s.l[i]?=Option.some x:=by rw [← List.head?_drop,h]; rfl
 have hn:s.nl=false:=by
  cases hn:s.nl with
  | false=>rfl
  | true=>rw [s.wf hn] at hx; cases hx
 refine ⟨Int.natCast_nonneg _,hn,by rw [hn]; rfl,?_⟩
 rw [Int.toNat_natCast,List.getElem?_map,hx]; rfl
theorem yy {α:Type} {l:List α} {x:α} {rest:List α} {i:Nat} (h:l.drop i=x::rest):decide (((i:Nat):Int) < ((l.length:Nat):Int))=true:=by
 have hlt:i < l.length:=by
  rcases Nat.lt_or_ge i l.length with hh | hh
  ·exact hh
  ·rw [List.drop_eq_nil_of_le hh] at h; cases h
 exact decide_eq_true (by omega)
theorem lt_no {α:Type} {l:List α} {i:Nat} (h:l.drop i=[]):decide (((i:Nat):Int) < ((l.length:Nat):Int))=false:=by
 have:=List.drop_eq_nil_iff.1 h
 exact decide_eq_false (by omega)
theorem zn {α:Type} {l:List α} {x:α} {rest:List α} {i:Nat} (h:l.drop i=x::rest):l.drop (i+1)=rest:=by rw [← List.drop_drop,h]; rfl
theorem zj {α:Type} {l:List α} {x:α} {rest:List α} {i:Nat} (h:l.drop i=x::rest):i < l.length:=by
 rcases Nat.lt_or_ge i l.length with hh | hh
 ·exact hh
 ·rw [List.drop_eq_nil_of_le hh] at h; cases h
end Go.VS

namespace Go.VS
open Go
def imin (a b:Int):Int:=if b < a then b else a
def yj (a b:Int):Int:=if b > a then b else a
theorem imin_eq (a b:Int):imin a b=min a b:=by unfold imin; omega
theorem imax_eq (a b:Int):yj a b=max a b:=by unfold yj; omega
theorem bne_true {a b:Int} (h:(a != b)=true):a ≠ b:=by simpa using h
theorem bne_false {a b:Int} (h:(a != b)=false):a=b:=by simpa using h
theorem nil_eq {α:Type} {l:List α} {i:Nat} (h:l.drop i=[]) (hi:i≤l.length):i=l.length:=by
 have:=List.drop_eq_nil_iff.1 h
 omega
theorem zb:EncOK 1 I:=⟨fun _ _ _=>rfl,fun _ _=>rfl,fun _ _ _=>rfl,fun _=>⟨rfl,rfl⟩⟩
theorem zT (n:Int):w64 n=(n+9223372036854775808) % 18446744073709551616 - 9223372036854775808:=by
 unfold w64 IntKind.wrap
 have hb:IntKind.i64.bits=64:=rfl
 simp only [hb]
 simp [IntKind.signed]
 omega
theorem ct_at {n:Int} {i k:Nat} (h:(n - ((i:Nat):Int)).toNat=k+1):decide (((i:Nat):Int) < n)=true:=decide_eq_true (by omega)
theorem ct_no {n:Int} {i:Nat} (h:(n - ((i:Nat):Int)).toNat=0):decide (((i:Nat):Int) < n)=false:=decide_eq_false (by omega)
instance {α:Type}:Inhabited (GS α):=⟨GS.nil⟩
def GS.at {α:Type} [Inhabited α] (s:GS α) (i:Int):α:=s.l.getD i.toNat default
theorem el_in {α:Type} [Inhabited α] {f:α→VS.D} {s:GS α} {k:Nat} {i:Int} (h0:0≤i) (h1:i < ((s.l.length:Nat):Int)):(0:Int)≤i∧s.nl=false∧k=zsl s.nl k∧(s.l.map f)[i.toNat]?=Option.some (f (s.at i)):=by
 have hlt:i.toNat < s.l.length:=by omega
 have hn:s.nl=false:=by
  cases hn:s.nl with
  | false=>rfl
  | true=>rw [s.wf hn] at hlt; simp at hlt
 refine ⟨h0,hn,by rw [hn]; rfl,?_⟩
 rw [List.getElem?_map,List.getElem?_eq_getElem hlt,GS.at,List.getD_eq_getElem?_getD,List.getElem?_eq_getElem hlt]; rfl
theorem mem_drop {α:Type} {l:List α} {x:α} {rest:List α} {i:Nat} (h:l.drop i=x::rest):x∈l:=List.mem_of_mem_drop (by rw [h]; simp)
theorem app_row {α:Type} {f:α→D} {te:Ty} {gO:Nat→Option Ob} {nxt o o2 sz:Nat} {fz:Bool} (EO:EncOK sz f) (l:List α) (x:α) (h1:gO o=some ⟨l.map f,sz,false⟩) (h2:gO o2=some ⟨[f x],sz,fz⟩) (h3:te.size=sz) (h4:zeroOk te=true) (h5:0 < te.size)
  (hb:(l.length+1) * te.bytes≤big∧l.length+1≤big) :
  appendE te gO nxt (.lsl o 0 l.length sz none) (.lsl o2 0 1 sz (some 1))=some ⟨.lsl nxt 0 (l++[x]).length sz none,[(o,none),(nxt,some ⟨(l++[x]).map f,sz,false⟩)],[o,o2],nxt+1⟩:=by
 have e1:elemsD gO (.lsl o2 0 1 sz (some 1))=some ([f x],sz,[o2]):=by
  simp [elemsD,h2]
 unfold appendE
 rw [e1]
 simp only [List.isEmpty,Bool.false_eq_true,if_false,h3,decide_true,Bool.true_and,h4,h1]
 have e2:allOk sz [f x]=true:=by simp only [allOk,(EO.ok x).1,(EO.ok x).2,decide_true,Bool.and_self]
 have e3:allOk sz (List.map f l)=true:=EO.allOk l
 have h5':0 < sz:=h3 ▸ h5
 have e4:List.take l.length (List.map f l)=List.map f l:=by rw [List.take_of_length_le]; simp
 simp only [e2,h5',decide_true,Bool.and_self,if_true,List.length_map,Nat.zero_add,Nat.le_refl,appLsl,hb.1,hb.2,Bool.not_false,List.length_cons,List.length_nil,e4]
 rw [if_neg (by omega)]
 simp [h3,e3]
theorem row_get {α:Type} [Inhabited α] {f:α→VS.D} {l:List α} {n:Nat} (h:n < l.length):(l.map f)[n]?=Option.some (f (l.getD n default)):=by
 rw [List.getElem?_map,List.getElem?_eq_getElem h,List.getD_eq_getElem?_getD,List.getElem?_eq_getElem h]; rfl
theorem row_at {α:Type} {f:α→VS.D} {l:List α} {x:α} {rest:List α} {i:Nat} (h:l.drop i=x::rest):(l.map f)[i]?=Option.some (f x):=by
 have hx:l[i]?=Option.some x:=by rw [← List.head?_drop,h]; rfl
 rw [List.getElem?_map,hx]; rfl
theorem lt_at' {α:Type} {l:List α} {x:α} {rest:List α} {i n:Nat} (h:l.drop i=x::rest) (e:l.length=n):decide (((i:Nat):Int) < ((n:Nat):Int))=true:=by rw [← e]; exact yy h
theorem lt_no' {α:Type} {l:List α} {i n:Nat} (h:l.drop i=[]) (e:l.length=n):decide (((i:Nat):Int) < ((n:Nat):Int))=false:=by rw [← e]; exact lt_no h
theorem GS.some_l {α:Type} {l:List α}:(GS.some l).l=l:=rfl
theorem row_set {α:Type} {f:α→VS.D} {l:List α} {n:Nat} {y:α}:(l.map f).set n (f y)=(l.set n y).map f:=by
 rw [List.map_set]
theorem idx_row {C:Cfg} {nxt:Nat} {t:TypeId} {ty te:Ty} {e:TypeId} {o len sz:Nat} {cap:Option Nat} {i:Int} (h1:C.ty t=Option.some ty) (h2:ty.kind=.slice e) (h3:C.ty e=Option.some te) (h4:te.size=sz) (h5:0≤i) (h6:i < ((len:Nat):Int)) :
  evIndexAddr C nxt t (.lsl o 0 len sz cap) (I i)=Option.some ⟨.lref o i.toNat sz 0,[],[],nxt⟩:=by
 have hlt:i.toNat < len:=by omega
 simp [evIndexAddr,h1,intOfD,h5,h2,h3,ixSlice,h4,hlt,just]
theorem load_row {C:Cfg} {objs:List (Nat × Ob)} {nxt:Nat} {t:TypeId} {ty:Ty} {o n sz sub:Nat} {ob:Ob} {e d:VS.D} (h1:C.ty t=Option.some ty) (h2:zB objs o=Option.some ob) (h3:ob.sz=sz) (h4:ob.els[n]?=Option.some e) (h5:partD ty sub e=Option.some d) :
  evLoad C objs nxt t (.lref o n sz sub)=Option.some ⟨d,[],[o],nxt⟩:=by
 simp [evLoad,h1,elAt,h2,h3,yz.2,h4,h5]
theorem store_row {C:Cfg} {objs:List (Nat × Ob)} {nxt:Nat} {t:TypeId} {ty:Ty} {o n sz sub:Nat} {els els':List VS.D} {e e' v:VS.D} (h1:C.ty t=Option.some ty) (h2:zB objs o=Option.some ⟨els,sz,false⟩) (h4:els[n]?=Option.some e) (h5:v.okCells=true) (h6:v.cells.length=ty.size) (h7:e.okCells=true)
  (h8:setPart sub e v=Option.some e') (h9:els.set n e'=els'):evStore C objs nxt t (.lref o n sz sub) v=Option.some ⟨.tup [],[(o,Option.some ⟨els',sz,false⟩)],[o],nxt⟩:=by
 simp [evStore,h1,elAt,h2,yz.2,h4,h5,h6,h7,h8,h9]
theorem snap_row {α:Type} {f:α→D} {gO:Nat→Option Ob} {o len sz:Nat} {cap:Option Nat} {fz:Bool} (EO:EncOK sz f) (l:List α) (h1:gO o=Option.some ⟨l.map f,sz,fz⟩) (h2:l.length=len):∀ n,snap gO (n+3) (.lsl o 0 len sz cap)=Option.some (.sl false (l.map f) sz none,[o]):=by
 intro n
 subst h2
 have e4:List.take l.length (List.map f l)=List.map f l:=by rw [List.take_of_length_le]; simp
 rw [snap]
 simp only [h1,decide_true,Bool.true_and,Nat.zero_add,List.length_map,Nat.le_refl,if_true,List.drop_zero,e4,EO.snapAll]
theorem nonnil {α:Type} {s:GS α} (h:s.l ≠ []):s.nl=false:=by
 cases hn:s.nl with
 | false=>rfl
 | true=>exact absurd (s.wf hn) h
end Go.VS

namespace Go.VS
open Go

section
variable {C:Cfg} {S:Sm} {R:Rnd}
end

theorem app_none {α:Type} {f:α→VS.D} {te:Ty} {gO:Nat→Option Ob} {nxt sz:Nat} {d:VS.D} (s:GS α) (h:s.l.isEmpty=true) (hd:isSl d=true) :
  appendE te gO nxt d (GS.D f sz s)=Option.some ⟨d,[],[],nxt⟩:=by
 have hl:s.l=[]:=by simpa using h
 unfold GS.D
 rw [hl]
 cases hn:s.nl <;> simp [appendE,elemsD,hd]
theorem ne_of_empty {α:Type} {l:List α} (h:l.isEmpty=false):l ≠ []:=by
 intro e
 subst e
 cases h
section
variable {C:Cfg} {R:Rnd} {K:FuncId} {args:List D} {objs objs':List (Nat × Ob)} {nxt nxt':Nat} {p:Option Code} {P:Prop}
end
section
variable {C:Cfg} {R:Rnd} {f:FuncId} {a:Code} {st st1 st':St} {e:Exit} {p:Option Code} {q:Exit × St × Option Code} {P:Prop}
end
end Go.VS

namespace Go.VS
open Go
section
variable {C:Cfg} {K:FuncId} {args:List D} {c b:Code} {st st':St} {d:D} {P:Prop}
end
end Go.VS

namespace Go.VS
open Go
theorem cond_t {α:Sort _} {b:Bool} {x y:α} (h:b=true):cond b x y=x:=by rw [h]; rfl
theorem cond_f {α:Sort _} {b:Bool} {x y:α} (h:b=false):cond b x y=y:=by rw [h]; rfl
theorem not_op {nxt:Nat} {v b:Bool} (h:v=b):justO nxt (unD .not (B v))=Option.some ⟨B (!b),[],[],nxt⟩:=by subst h; rfl
theorem ids_yld {f k:Nat}:idsD (f+1) (.yld k)=Option.some [k]:=rfl
theorem ren_yld {ρ:Nat→Option Nat} {f k:Nat}:renD ρ (f+1) (.yld k)=(match ρ k with | Option.some o=>.yld o | none=>.unk):=rfl
attribute [go_sem] ids_yld ren_yld
end Go.VS

namespace Go.VS
open Go
structure EncD {α:Type} (f:α→VS.D):Prop where
 d:∀ g x,deepEl g (f x)=f x
 i:∀ g x,deepElI g (f x)=[]
section
variable {α:Type} {f:α→VS.D} (h:EncD f)
include h
theorem EncD.catI (g:Nat→Option Ob) (l:List α):Go.VS.catI (deepElI g) (l.map f)=[]:=by
 induction l with
 | nil=>rfl
 | cons x l ih=>simp only [List.map_cons,Go.VS.catI,ih,h.i]; rfl
end
theorem rem_op {C:Cfg} {t:TypeId} {cst:Bool} {nxt:Nat} {a b:Int} (h:b ≠ 0):justO nxt (binD C t cst .rem (I a) (I b))=Option.some ⟨I (a.tmod b),[],[],nxt⟩:=by
 simp [binD,binVal,binInt,intOp,justO,h]
theorem dd_I {g:Nat→Option Ob} {n:Int}:deepD g (I n)=I n:=rfl
theorem dd_B {g:Nat→Option Ob} {b:Bool}:deepD g (B b)=B b:=rfl
theorem di_I {g:Nat→Option Ob} {n:Int}:deepI g (I n)=[]:=rfl
theorem di_B {g:Nat→Option Ob} {b:Bool}:deepI g (B b)=[]:=rfl
attribute [go_sem] deepSl deepSlI dd_I dd_B di_I di_B dd_val dd_sl dd_ptr dd_lsl di_val di_sl di_ptr di_lsl
end Go.VS

namespace Go.VS
open Go
set_option maxHeartbeats 0
structure Sn where
 lo:Int
 hi:Int
instance:Inhabited Sn:=⟨⟨0,0⟩⟩
def Sn.D (x:Sn):VS.D:=.agg [I x.lo,I x.hi]
def In (l:List Sn) (x:Int):Prop:=∃ s∈l,s.lo≤x∧x≤s.hi
theorem In_nil {x:Int}:¬ In [] x:=fun ⟨_,h,_⟩=>by cases h
theorem In_cons {s:Sn} {l:List Sn} {x:Int}:In (s::l) x↔(s.lo≤x∧x≤s.hi) ∨ In l x:=by
 constructor
 ·rintro ⟨t,ht,h1,h2⟩
  rcases List.mem_cons.1 ht with rfl | ht
  ·exact .inl ⟨h1,h2⟩
  ·exact .inr ⟨t,ht,h1,h2⟩
 ·rintro (⟨h1,h2⟩ | ⟨t,ht,h1,h2⟩)
  ·exact ⟨s,List.mem_cons_self,h1,h2⟩
  ·exact ⟨t,List.mem_cons_of_mem _ ht,h1,h2⟩
theorem In_append {a b:List Sn} {x:Int}:In (a++b) x↔In a x ∨ In b x:=by
 constructor
 ·rintro ⟨t,ht,h⟩
  rcases List.mem_append.1 ht with ht | ht
  ·exact .inl ⟨t,ht,h⟩
  ·exact .inr ⟨t,ht,h⟩
 ·rintro (⟨t,ht,h⟩ | ⟨t,ht,h⟩)
  ·exact ⟨t,List.mem_append_left _ ht,h⟩
  ·exact ⟨t,List.mem_append_right _ ht,h⟩
theorem In_perm {a b:List Sn} (h:List.Perm a b) {x:Int}:In a x↔In b x :=
 ⟨fun ⟨s,hs,k⟩=>⟨s,h.mem_iff.1 hs,k⟩,fun ⟨s,hs,k⟩=>⟨s,h.mem_iff.2 hs,k⟩⟩
theorem In_flat {α:Type} {l:List α} {f:α→List Sn} {x:Int}:In (l.flatMap f) x↔∃ a∈l,In (f a) x:=by
 constructor
 ·rintro ⟨s,hs,k⟩
  obtain ⟨a,ha,hs⟩:=List.mem_flatMap.1 hs
  exact ⟨a,ha,s,hs,k⟩
 ·rintro ⟨a,ha,s,hs,k⟩
  exact ⟨s,List.mem_flatMap.2 ⟨a,ha,hs⟩,k⟩
def cn:List Sn→Prop
 | []=>True
 | s::l=>s.lo≤s.hi∧(∀ t∈l,s.hi+1 < t.lo)∧cn l
theorem cn_above {s:Sn} {l:List Sn} (h:cn (s::l)) {x:Int} (hx:In l x):s.hi+1 < x:=by
 obtain ⟨t,ht,h1,h2⟩:=hx
 have:=h.2.1 t ht
 omega
theorem cn_mem {l:List Sn} (h:cn l) {s:Sn} (hs:s∈l):s.lo≤s.hi:=by
 induction l with
 | nil=>cases hs
 | cons t l ih =>
  rcases List.mem_cons.1 hs with rfl | hs
  ·exact h.1
  ·exact ih h.2.2 hs
theorem cn_unique:∀ {a b:List Sn},cn a→cn b→(∀ x,In a x↔In b x)→a=b
 | [],[],_,_,_=>rfl
 | [],t::b,_,hb,h=>absurd ((h t.lo).2 (In_cons.2 (.inl ⟨by omega,hb.1⟩))) In_nil
 | s::a,[],ha,_,h=>absurd ((h s.lo).1 (In_cons.2 (.inl ⟨by omega,ha.1⟩))) In_nil
 | s::a,t::b,ha,hb,h=>by
  have e1:s.lo=t.lo:=by
   have k1:=(h s.lo).1 (In_cons.2 (.inl ⟨by omega,ha.1⟩))
   have k2:=(h t.lo).2 (In_cons.2 (.inl ⟨by omega,hb.1⟩))
   have:=hb.1
   have:=ha.1
   rcases In_cons.1 k1 with k1 | k1 <;> rcases In_cons.1 k2 with k2 | k2
   ·omega
   ·have:=cn_above ha k2; omega
   ·have:=cn_above hb k1; omega
   ·have:=cn_above ha k2; have:=cn_above hb k1; omega
  have e2:s.hi=t.hi:=by
   have h1:=ha.1
   have h2:=hb.1
   rcases Int.lt_trichotomy s.hi t.hi with hl | he | hl
   ·have k:=(h (s.hi+1)).2 (In_cons.2 (.inl ⟨by omega,by omega⟩))
    rcases In_cons.1 k with k | k
    ·omega
    ·have:=cn_above ha k; omega
   ·exact he
   ·have k:=(h (t.hi+1)).1 (In_cons.2 (.inl ⟨by omega,by omega⟩))
    rcases In_cons.1 k with k | k
    ·omega
    ·have:=cn_above hb k; omega
  have e3:a=b:=cn_unique ha.2.2 hb.2.2 fun x=>by
   constructor
   ·intro hx
    have:=cn_above ha hx
    rcases In_cons.1 ((h x).1 (In_cons.2 (.inr hx))) with k | k
    ·omega
    ·exact k
   ·intro hx
    have:=cn_above hb hx
    rcases In_cons.1 ((h x).2 (In_cons.2 (.inr hx))) with k | k
    ·omega
    ·exact k
  cases s
  cases t
  simp only at e1 e2
  subst e1 e2 e3
  rfl
def jn (c:Sn):List Sn→List Sn
 | []=>[c]
 | x::l=>if x.lo≤c.hi+1 then jn ⟨c.lo,max c.hi x.hi⟩ l else c::jn x l
def jnL:List Sn→List Sn
 | []=>[]
 | x::l=>jn x l
def srtS (l:List Sn):Prop:=l.Pairwise fun a b=>a.lo≤b.lo
theorem jn_in:∀ (l:List Sn) (c:Sn),c.lo≤c.hi→(∀ s∈l,s.lo≤s.hi)→srtS (c::l)→∀ x,In (jn c l) x↔In (c::l) x
 | [],c,_,_,_,x=>by simp [jn]
 | y::l,c,hc,hl,ho,x=>by
  unfold jn
  have hy:=hl y List.mem_cons_self
  have ho':=List.pairwise_cons.1 ho
  have hcy:=ho'.1 y List.mem_cons_self
  have hl':=fun s hs=>hl s (List.mem_cons_of_mem _ hs)
  split
  ·rename_i h
   rw [jn_in l ⟨c.lo,max c.hi y.hi⟩ (by simp only; omega) hl' (List.pairwise_cons.2 ⟨fun s hs=>ho'.1 s (List.mem_cons_of_mem _ hs),(List.pairwise_cons.1 ho'.2).2⟩) x]
   rw [In_cons,In_cons,In_cons]
   simp only
   constructor
   ·rintro (⟨h1,h2⟩ | h1)
    ·by_cases hh:x≤c.hi
     ·exact .inl ⟨h1,hh⟩
     ·exact .inr (.inl ⟨by omega,by omega⟩)
    ·exact .inr (.inr h1)
   ·rintro (⟨h1,h2⟩ | ⟨h1,h2⟩ | h1)
    ·exact .inl ⟨h1,by omega⟩
    ·exact .inl ⟨by omega,by omega⟩
    ·exact .inr h1
  ·rename_i h
   rw [In_cons,In_cons,jn_in l y hy hl' ho'.2 x]
theorem jn_lo:∀ (l:List Sn) (c:Sn) (a:Int),a≤c.lo→(∀ s∈l,a≤s.lo)→∀ s∈jn c l,a≤s.lo
 | [],c,a,hc,_,s,hs=>by
  have:s=c:=by simpa [jn] using hs
  rw [this]; exact hc
 | y::l,c,a,hc,hl,s,hs=>by
  unfold jn at hs
  split at hs
  ·exact jn_lo l _ a (by simpa using hc) (fun s hs=>hl s (List.mem_cons_of_mem _ hs)) s hs
  ·rcases List.mem_cons.1 hs with rfl | hs
   ·exact hc
   ·exact jn_lo l y a (hl y List.mem_cons_self) (fun s hs=>hl s (List.mem_cons_of_mem _ hs)) s hs
theorem jn_cn:∀ (l:List Sn) (c:Sn),c.lo≤c.hi→(∀ s∈l,s.lo≤s.hi)→srtS (c::l)→cn (jn c l)
 | [],c,hc,_,_=>⟨hc,(fun _ h=>by cases h),trivial⟩
 | y::l,c,hc,hl,ho=>by
  unfold jn
  have hy:=hl y List.mem_cons_self
  have ho':=List.pairwise_cons.1 ho
  have hl':=fun s hs=>hl s (List.mem_cons_of_mem _ hs)
  split
  ·rename_i h
   exact jn_cn l _ (by simp only; omega) hl' (List.pairwise_cons.2 ⟨fun s hs=>ho'.1 s (List.mem_cons_of_mem _ hs),(List.pairwise_cons.1 ho'.2).2⟩)
  ·rename_i h
   exact ⟨hc,fun t ht=>by
    have:=jn_lo l y y.lo (Int.le_refl _) (List.pairwise_cons.1 ho'.2).1 t ht
    omega,jn_cn l y hy hl' ho'.2⟩
def Rg (S:Int→Prop) (r:List Sn):Prop:=cn r∧∀ x,In r x↔S x
theorem Rg.unique {S:Int→Prop} {a b:List Sn} (ha:Rg S a) (hb:Rg S b):a=b:=cn_unique ha.1 hb.1 fun x=>by rw [ha.2,hb.2]
theorem Rg.congr {S T:Int→Prop} {a:List Sn} (ha:Rg S a) (h:∀ x,S x↔T x):Rg T a:=⟨ha.1,fun x=>by rw [ha.2,h]⟩
theorem Rg.eq {S T:Int→Prop} {a b:List Sn} (ha:Rg S a) (hb:Rg T b) (h:∀ x,S x↔T x):a=b:=(ha.congr h).unique hb
theorem jnL_rg {l:List Sn} (hl:∀ s∈l,s.lo≤s.hi) (ho:srtS l):Rg (In l) (jnL l):=by
 cases l with
 | nil=>exact ⟨trivial,fun x=>Iff.rfl⟩
 | cons c l=>exact ⟨jn_cn l c (hl c List.mem_cons_self) (fun s hs=>hl s (List.mem_cons_of_mem _ hs)) ho,jn_in l c (hl c List.mem_cons_self) (fun s hs=>hl s (List.mem_cons_of_mem _ hs)) ho⟩
def bd (l:List Sn):Prop:=∀ s∈l,-1099511627776≤s.lo∧s.lo≤1099511627776∧-1099511627776≤s.hi∧s.hi≤1099511627776
theorem bd_in {l:List Sn} (h:bd l) {x:Int} (hx:In l x):-1099511627776≤x∧x≤1099511627776:=by
 obtain ⟨s,hs,h1,h2⟩:=hx
 have:=h s hs
 omega
theorem cn_bd {l:List Sn} (h:cn l) (hb:∀ x,In l x→-1099511627776≤x∧x≤1099511627776):bd l:=fun s hs=>by
 have h0:=cn_mem h hs
 have h1:=hb s.lo ⟨s,hs,Int.le_refl _,h0⟩
 have h2:=hb s.hi ⟨s,hs,h0,Int.le_refl _⟩
 omega
def Ok (r:List Sn):Prop:=cn r∧bd r∧r.length≤64
def inB (l:List Sn) (x:Int):Bool:=l.any fun s=>decide (s.lo≤x) && decide (x≤s.hi)
theorem inB_iff {l:List Sn} {x:Int}:inB l x=true↔In l x:=by
 unfold inB In
 simp [List.any_eq_true]
theorem inB_false {l:List Sn} {x:Int}:inB l x=false↔¬ In l x:=by
 rw [← inB_iff]; simp
end Go.VS

namespace Go.VS
open Go
set_option maxHeartbeats 0
def someS (lo hi:Int):List Sn:=if lo > hi then [] else [⟨lo,hi⟩]
theorem In_some {lo hi x:Int}:In (someS lo hi) x↔lo≤x∧x≤hi:=by
 unfold someS
 split
 ·exact ⟨fun h=>absurd h In_nil,fun h=>by omega⟩
 ·rw [In_cons]
  exact ⟨fun h=>h.elim id fun h=>absurd h In_nil,fun h=>.inl h⟩
theorem some_ne {lo hi:Int}:∀ s∈someS lo hi,s.lo≤s.hi:=by
 unfold someS
 split
 ·intro s h; cases h
 ·intro s h; rw [List.mem_singleton.1 h]; simp only; omega
theorem flat_ne {α:Type} {l:List α} {f:α→List Sn} (h:∀ a∈l,∀ s∈f a,s.lo≤s.hi):∀ s∈l.flatMap f,s.lo≤s.hi:=fun s hs=>by
 obtain ⟨a,ha,hs⟩:=List.mem_flatMap.1 hs
 exact h a ha s hs
def pairsL (a b:List Sn) (f:Sn→Sn→List Sn):List Sn:=a.flatMap fun s=>b.flatMap fun t=>f s t
theorem pairs_ne {a b:List Sn} {f:Sn→Sn→List Sn} (h:∀ s∈a,∀ t∈b,∀ r∈f s t,r.lo≤r.hi):∀ s∈pairsL a b f,s.lo≤s.hi :=
 flat_ne fun s hs=>flat_ne fun t ht=>h s hs t ht
theorem In_pairs {a b:List Sn} {f:Sn→Sn→List Sn} {x:Int}:In (pairsL a b f) x↔∃ s∈a,∃ t∈b,In (f s t) x:=by
 unfold pairsL
 rw [In_flat]
 constructor
 ·rintro ⟨s,hs,h⟩
  obtain ⟨t,ht,h⟩:=In_flat.1 h
  exact ⟨s,hs,t,ht,h⟩
 ·rintro ⟨s,hs,t,ht,h⟩
  exact ⟨s,hs,In_flat.2 ⟨t,ht,h⟩⟩
def comF (s t:Sn):List Sn:=someS (max s.lo t.lo) (min s.hi t.hi)
theorem In_common {a b:List Sn} {x:Int}:In (pairsL a b comF) x↔In a x∧In b x:=by
 rw [In_pairs]
 constructor
 ·rintro ⟨s,hs,t,ht,h⟩
  have:=In_some.1 h
  exact ⟨⟨s,hs,by omega,by omega⟩,⟨t,ht,by omega,by omega⟩⟩
 ·rintro ⟨⟨s,hs,h1,h2⟩,⟨t,ht,h3,h4⟩⟩
  exact ⟨s,hs,t,ht,In_some.2 ⟨by omega,by omega⟩⟩
def shiL (r:List Sn) (by_:Int):List Sn:=r.flatMap fun s=>someS (s.lo+by_) (s.hi+by_)
theorem In_shift {r:List Sn} {k x:Int}:In (shiL r k) x↔In r (x - k):=by
 unfold shiL
 rw [In_flat]
 constructor
 ·rintro ⟨s,hs,h⟩
  have:=In_some.1 h
  exact ⟨s,hs,by omega,by omega⟩
 ·rintro ⟨s,hs,h1,h2⟩
  exact ⟨s,hs,In_some.2 ⟨by omega,by omega⟩⟩
def outS (f:Int):List Sn→List Sn
 | []=>someS f 1099511627776
 | s::l=>someS f (s.lo - 1)++outS (s.hi+1) l
theorem In_out:∀ (l:List Sn) (f:Int),cn l→(∀ s∈l,f≤s.lo∧s.hi≤1099511627776)→∀ x,In (outS f l) x↔f≤x∧x≤1099511627776∧¬ In l x
 | [],f,_,_,x=>by
  unfold outS
  rw [In_some]
  exact ⟨fun h=>⟨h.1,h.2,In_nil⟩,fun h=>⟨h.1,h.2.1⟩⟩
 | s::l,f,hc,hb,x=>by
  unfold outS
  have h0:=hc.1
  have h1:=hb s List.mem_cons_self
  rw [In_append,In_some,In_out l (s.hi+1) hc.2.2 (fun t ht=>⟨by have:=hc.2.1 t ht; omega,(hb t (List.mem_cons_of_mem _ ht)).2⟩) x,In_cons]
  constructor
  ·rintro (⟨h2,h3⟩ | ⟨h2,h3,h4⟩)
   ·refine ⟨h2,by omega,?_⟩
    rintro (⟨h5,h6⟩ | h5)
    ·omega
    ·have:=cn_above hc h5; omega
   ·refine ⟨by omega,h3,?_⟩
    rintro (⟨h5,h6⟩ | h5)
    ·omega
    ·exact h4 h5
  ·rintro ⟨h2,h3,h4⟩
   by_cases h5:x < s.lo
   ·exact .inl ⟨h2,by omega⟩
   ·refine .inr ⟨?_,h3,fun h6=>h4 (.inr h6)⟩
    have:¬ (s.lo≤x∧x≤s.hi):=fun h6=>h4 (.inl h6)
    omega
theorem In_minus {a b:List Sn} (ha:bd a) (hb:cn b) (bb:bd b) {x:Int}:In (pairsL a (outS (-1099511627776) b) comF) x↔In a x∧¬ In b x:=by
 rw [In_common,In_out b _ hb fun s hs=>⟨(bb s hs).1,(bb s hs).2.2.2⟩]
 constructor
 ·rintro ⟨h1,h2⟩; exact ⟨h1,h2.2.2⟩
 ·rintro ⟨h1,h2⟩
  have:=bd_in ha h1
  exact ⟨h1,this.1,this.2,h2⟩
theorem some_len {lo hi:Int}:(someS lo hi).length≤1:=by unfold someS; split <;> simp
theorem within_iff {a b:List Sn} (ha:cn a) (ba:bd a) (hb:cn b) (bb:bd b):pairsL a (outS (-1099511627776) b) comF=[]↔∀ x,In a x→In b x:=by
 have hne:∀ s∈pairsL a (outS (-1099511627776) b) comF,s.lo≤s.hi:=pairs_ne fun s _ t _=>some_ne
 constructor
 ·intro h x hx
  refine Classical.byContradiction fun hn=>?_
  have:=(In_minus ba hb bb (x:=x)).2 ⟨hx,hn⟩
  rw [h] at this
  exact In_nil this
 ·intro h
  cases hl:pairsL a (outS (-1099511627776) b) comF with
  | nil=>rfl
  | cons s l =>
   have hs:s∈pairsL a (outS (-1099511627776) b) comF:=by rw [hl]; exact List.mem_cons_self
   have:=(In_minus ba hb bb (x:=s.lo)).1 ⟨s,hs,Int.le_refl _,hne s hs⟩
   exact absurd (h _ this.1) this.2
end Go.VS

namespace Go.VS
open Go Go.RowKit Go.ChangeShapes Go.WideShapes

def memOf (w:World):Mem:=fun b o=>w.cell? ⟨b,o,none⟩
theorem memOf_ok (w:World):MOK (memOf w) w:=fun _ _ _ h=>h

def Sh (C:Cfg):Nat→TypeId→List D→Prop
 | 0,_,_=>False
 | f+1,t,ds=>match C.ty t with
  | some ty=>match ty.kind with
   | .int k=>∃ n,ds=[.val (.int k n)]∧k.min≤n∧n≤k.max
   | .bool=>∃ b,ds=[B b]
   | .str=>∃ s:ByteArray,ds=[.val (.string s)]∧s.size≤maxLen
   | .struct fs=>ds.length=ty.size∧∀ p∈fs,∃ tf,C.ty p.1=some tf∧Sh C f p.1 ((ds.drop p.2).take tf.size)
   | .arr n e=>ds.length=ty.size∧∃ te,C.ty e=some te∧∀ i,i < n→Sh C f e ((ds.drop (i * te.size)).take te.size)
   | .slice e=>ds=[.sl true [] 0 none] ∨ ∃ els te,C.ty e=some te∧ds=[.sl false els te.size none]∧els.length≤maxLen ∧
     ∀ d∈els,Sh C f e d.cells∧(te.isAgg=true→d=.agg d.cells)∧(te.isAgg=false→d.cells=[d])
   | _=>False
  | none=>False
def flatT (C:Cfg):Nat→TypeId→Bool
 | 0,_=>false
 | f+1,t=>match C.ty t with
  | some ty=>match ty.kind with
   | .int _=>true
   | .bool=>true
   | .str=>true
   | .struct fs=>fs.all fun p=>flatT C f p.1
   | .arr _ e=>flatT C f e
   | _=>false
  | none=>false
def topT (C:Cfg):Nat→TypeId→Bool
 | 0,_=>false
 | f+1,t=>match C.ty t with
  | some ty=>match ty.kind with
   | .int _=>true
   | .bool=>true
   | .str=>true
   | .struct fs=>fs.all fun p=>topT C f p.1
   | .arr _ e=>topT C f e
   | .slice e=>topT C f e
   | _=>false
  | none=>false
def plainCells (cs:List Value):Prop:=∀ v∈cs,∀ a l c,v=.slice (some a) l c→a.spot=none

theorem cellsOf_of {P:Program} {t:TypeId} {ty:Ty} (h:tyOf P t=some ty):P.cellsOf t=ty.size:=by
 obtain ⟨i,d,hi,hd,hz,hk,hs,hb⟩:=tyOf_spec h
 simp [Program.cellsOf,hi,hs]

theorem list_parts {α:Type} (l:List α) (n k:Nat) (h:l.length=n * k):l=(List.range n).flatMap fun i=>(l.drop (i * k)).take k:=by
 induction n generalizing l with
 | zero=>simp at h ⊢; exact h
 | succ n ih =>
  rw [List.range_succ_eq_map,List.flatMap_cons]
  simp only [Nat.zero_mul,List.drop_zero,List.flatMap_map]
  have hl:(l.drop k).length=n * k:=by rw [List.length_drop,h,Nat.add_mul]; omega
  have e:=ih (l.drop k) hl
  have:(List.range n).flatMap (fun i=>((l.drop k).drop (i * k)).take k)=(List.range n).flatMap (fun i=>(l.drop ((i+1) * k)).take k):=by
   congr 1; funext i; rw [List.drop_drop]; congr 2; rw [Nat.add_mul]; omega
  rw [this] at e
  calc l=l.take k++l.drop k:=(List.take_append_drop k l).symm
   _=_:=by rw [← e]

theorem zU.join {M:Mem} {Q:Nat→List D→Prop}:∀ (n:Nat) (F:Nat→List Value),(∀ i,i < n→∃ ds,zU M noLoc ds (F i)∧Q i ds) →
  ∃ G:Nat→List D,zU M noLoc ((List.range n).flatMap G) ((List.range n).flatMap F)∧∀ i,i < n→zU M noLoc (G i) (F i)∧Q i (G i):=by
 intro n F h
 obtain ⟨G,hG⟩:=Go.Deep.choose_lt (α:=List D) (p:=fun i ds=>zU M noLoc ds (F i)∧Q i ds) h
 refine ⟨G,?_,hG⟩
 have:∀ l:List Nat,(∀ i∈l,i < n)→zU M noLoc (l.flatMap G) (l.flatMap F):=by
  intro l
  induction l with
  | nil=>intro _; simp [zU]
  | cons a l ih =>
   intro hl
   simp only [List.flatMap_cons]
   exact zU.append (hG a (hl a (by simp))).1 (ih fun i hi=>hl i (List.mem_cons_of_mem _ hi))
 exact this _ fun i hi=>by simpa using hi
theorem flatMap_part {α:Type} (n:Nat) (G:Nat→List α) (k:Nat) (h:∀ i,i < n→(G i).length=k) (i:Nat) (hi:i < n):(((List.range n).flatMap G).drop (i * k)).take k=G i:=by
 induction n generalizing i G with
 | zero=>omega
 | succ n ih =>
  rw [List.range_succ_eq_map,List.flatMap_cons,List.flatMap_map]
  have h0:=h 0 (by omega)
  cases i with
  | zero=>simp [← h0]
  | succ i =>
   rw [List.drop_append,List.drop_eq_nil_of_le (by rw [h0,Nat.add_mul]; omega),List.nil_append,h0]
   have:(i+1) * k - k=i * k:=by rw [Nat.add_mul]; omega
   rw [this]
   exact ih (fun i=>G (i+1)) (fun i hi=>h (i+1) (by omega)) i (by omega)

def rowed:Nat→List (Nat × Nat)→Option Nat
 | o,[]=>some o
 | o,(off,size)::r=>if off=o then rowed (o+size) r else none
def rowedT (C:Cfg):Nat→TypeId→Bool
 | 0,_=>false
 | f+1,t=>match C.ty t with
  | some ty=>match ty.kind with
   | .int _=>ty.size == 1
   | .bool=>ty.size == 1
   | .str=>ty.size == 1
   | .slice e=>ty.size == 1 && (match C.ty e with | some te=>rowedT C f e && decide (0 < te.size) | none=>false)
   | .struct fs=>(fs.all fun p=>rowedT C f p.1) && (match placesOf C fs with | some pl=>rowed 0 pl == some ty.size | none=>false)
   | .arr n e=>rowedT C f e && (match C.ty e with | some te=>ty.size == n * te.size | none=>false)
   | _=>false
  | none=>false

theorem rowed_parts {M:Mem} {cs:List Value}:∀ (l:List (Nat × Nat)) (o n:Nat),rowed o l=some n→n≤cs.length→∀ {Q:Nat→List D→Prop},
  (∀ i p,l[i]?=some p→∃ ds,zU M noLoc ds ((cs.drop p.1).take p.2)∧Q i ds) →
  ∃ ds,zU M noLoc ds ((cs.drop o).take (n - o))∧ds.length=n - o∧o≤n∧∀ i p,l[i]?=some p→o≤p.1∧Q i ((ds.drop (p.1 - o)).take p.2)
 | [],o,n,h,hn,Q,_=>by
  simp only [rowed,Option.some.injEq] at h; subst h
  exact ⟨[],by simp [zU],by simp,Nat.le_refl _,by simp⟩
 | (off,size)::r,o,n,h,hn,Q,hq=>by
  simp only [rowed] at h
  split at h
  ·rename_i ho; subst ho
   obtain ⟨d0,h1,h2⟩:=hq 0 (off,size) rfl
   obtain ⟨ds,k1,k2,k3,k4⟩:=rowed_parts r (off+size) n h hn (Q:=fun i=>Q (i+1)) (fun i p hp=>hq (i+1) p (by simpa using hp))
   have hl:d0.length=size:=by rw [← h1.length,List.length_take,List.length_drop]; omega
   refine ⟨d0++ds,?_,by simp [hl,k2]; omega,by omega,fun i p hp=>?_⟩
   ·have e:(cs.drop off).take (n - off)=(cs.drop off).take size++(cs.drop (off+size)).take (n - (off+size)):=by
     rw [show n - off=size+(n - (off+size)) by omega,List.take_add,List.drop_drop]
    rw [e]; exact h1.append k1
   ·cases i with
    | zero=>simp at hp; subst hp; simp [← hl]; simpa [hl] using h2
    | succ i =>
     obtain ⟨q1,q2⟩:=k4 i p (by simpa using hp)
     refine ⟨by omega,?_⟩
     rw [List.drop_append,List.drop_eq_nil_of_le (by omega),List.nil_append,hl,show p.1 - off - size=p.1 - (off+size) by omega]
     exact q2
  ·cases h

section
variable {H:Type} {enc:TypeId × Value→H} {C:Cfg} {w:World} {base:Nat} {sp:Nat→Bool} {held:Bool}

theorem placesOf_get:∀ {fs:List (TypeId × Nat)} {pl:List (Nat × Nat)},placesOf C fs=some pl→fs.length=pl.length∧∀ (i:Nat) (p:Nat × Nat),pl[i]?=some p→∃ t ty,fs[i]?=some (t,p.1)∧C.ty t=some ty∧ty.size=p.2
 | [],pl,h=>by simp [placesOf] at h; subst h; simp
 | (t,off)::r,pl,h=>by
  simp only [placesOf] at h
  split at h
  ·rename_i ty l h1 h2
   cases h
   obtain ⟨k1,k2⟩:=placesOf_get h2
   refine ⟨by simp [k1],fun i p hp=>?_⟩
   cases i with
   | zero=>simp at hp; subst hp; exact ⟨t,ty,by simp,h1,rfl⟩
   | succ i=>obtain ⟨t',ty',a,b,c⟩:=k2 i p (by simpa using hp); exact ⟨t',ty',by simpa using a,b,c⟩
  ·cases h

theorem fieldsOf_get {fs:Array Field} {i:Nat} {p:TypeId × Nat} (h:(fs.toList.map fun f=>(f.type,f.offset))[i]?=some p):∃ f:Field,fs[i]?=some f∧f.type=p.1∧f.offset=p.2:=by
 rw [List.getElem?_map] at h
 cases hf:fs.toList[i]? with
 | none=>rw [hf] at h; cases h
 | some f=>rw [hf] at h; cases h; exact ⟨f,by simpa using hf,rfl,rfl⟩

theorem trod_rep' (hC:∀ t ty,C.ty t=some ty→tyOf C.P t=some ty):∀ (f n:Nat) (t:TypeId) (cs:List Value) (x:DataW H × List MemPlace),
    DataW.trod enc C.P w base sp held n t cs=some x→topT C f t=true→rowedT C f t=true →
    ∃ ds,zU (memOf w) noLoc ds cs∧Sh C f t ds
  | 0,_,_,_,_,_,h,_=>by cases h
  | f+1,n,t,cs,x,h,ht,hw=>by
    unfold topT at ht
    split at ht
    case h_2=>cases ht
    rename_i ty hty
    have hto:=hC _ _ hty
    obtain ⟨i,d,hi,hd,hz,hk,hs,hb⟩:=tyOf_spec hto
    unfold rowedT at hw
    rw [hty] at hw; simp only [] at hw
    unfold Sh
    rw [hty]; simp only []
    cases d <;> simp only [tkOf] at hk <;> rw [hk] at ht hw ⊢ <;> simp only [] at ht hw ⊢ <;> (try (cases ht; done))
    case bool =>
      obtain ⟨b,rfl,_⟩:=DataW.trod_bool hd h
      exact ⟨[B b],by simp [zU,Rep],b,rfl⟩
    case int k =>
      obtain ⟨m,rfl,_,hwf⟩:=DataW.trod_int hd h
      simp only [Lit.wf,Bool.and_eq_true,decide_eq_true_eq] at hwf
      exact ⟨[.val (.int k m)],by simp [zU,Rep],m,rfl,hwf⟩
    case string =>
      obtain ⟨s,rfl,_,hsz⟩:=DataW.trod_string hd h
      exact ⟨[.val (.string s)],by simp [zU,Rep],s,rfl,hsz⟩
    case struct fs =>
      obtain ⟨xs,m,rfl,_,hl,hxl,hf⟩:=DataW.trod_struct hd h
      rw [cellsOf_of hto] at hl
      simp only [Bool.and_eq_true] at hw
      obtain ⟨hw1,hw2⟩:=hw
      split at hw2
      case h_2=>cases hw2
      rename_i pl hpl
      have hrow:rowed 0 pl=some ty.size:=by simpa using hw2
      obtain ⟨hlen,hget⟩:=placesOf_get hpl
      obtain ⟨ds,k1,k2,_,k4⟩:=rowed_parts (M:=memOf w) (cs:=cs) pl 0 ty.size hrow (by omega) (Q:=fun i ds=>∃ p,(fs.toList.map fun f=>(f.type,f.offset))[i]?=some p∧Sh C f p.1 ds) (fun i p hp0=>by
        obtain ⟨t',ty',a,b,c⟩:=hget i p hp0
        obtain ⟨fd,e1,e2,e3⟩:=fieldsOf_get a
        simp only [] at e2 e3
        have hmem:=List.mem_of_getElem? a
        simp only [List.all_eq_true] at ht hw1
        have hx:=hf i fd e1
        have hil:i < xs.length:=by rw [hxl]; exact (Array.getElem?_eq_some_iff.1 e1).1
        rw [List.getElem?_eq_getElem hil,e2,e3,cellsOf_of (hC _ _ b),c] at hx
        obtain ⟨ds,q1,q2⟩:=trod_rep' hC f m _ _ _ hx (ht _ hmem) (hw1 _ hmem)
        exact ⟨ds,q1,_,a,q2⟩)
      simp only [List.drop_zero,Nat.sub_zero] at k1 k2 k4
      rw [← hl,List.take_length] at k1
      refine ⟨ds,k1,k2,fun p hpm=>?_⟩
      obtain ⟨i,hi'⟩:=List.mem_iff_getElem?.1 hpm
      have hil:i < pl.length:=by rw [← hlen]; exact (List.getElem?_eq_some_iff.1 hi').1
      obtain ⟨t',ty',a,b,c⟩:=hget i pl[i] (List.getElem?_eq_getElem hil)
      rw [hi'] at a; cases a
      obtain ⟨_,p',q1,q2⟩:=k4 i pl[i] (List.getElem?_eq_getElem hil)
      rw [hi'] at q1; cases q1
      exact ⟨ty',b,by rw [c]; exact q2⟩
    case array m e =>
      obtain ⟨xs,m',rfl,_,hl,hxl,hf⟩:=DataW.trod_array hd h
      rw [cellsOf_of hto] at hl
      simp only [Bool.and_eq_true] at hw
      obtain ⟨hw1,hw2⟩:=hw
      split at hw2
      case h_2=>cases hw2
      rename_i te hte
      have hsz:ty.size=m * te.size:=by simpa using hw2
      have hce:=cellsOf_of (hC _ _ hte)
      have hpart:=list_parts cs m te.size (by rw [hl,hsz])
      obtain ⟨G,g1,g2⟩:=zU.join (M:=memOf w) (Q:=fun _ ds=>Sh C f e ds) m (fun i=>(cs.drop (i * te.size)).take te.size) (fun i hi=>by
        have hx:=hf i hi
        rw [List.getElem?_eq_getElem (by omega),hce] at hx
        exact trod_rep' hC f m' _ _ _ hx ht hw1)
      rw [← hpart] at g1
      have hGl:∀ i,i < m→(G i).length=te.size:=by
        intro i hi
        rw [← (g2 i hi).1.length,List.length_take,List.length_drop,hl,hsz]
        have:(i+1) * te.size≤m * te.size:=Nat.mul_le_mul_right _ hi
        rw [Nat.add_mul] at this; omega
      refine ⟨_,g1,by rw [← g1.length]; exact hl,te,hte,fun i hi=>?_⟩
      rw [flatMap_part m G te.size hGl i hi]
      exact (g2 i hi).2
    case slice e =>
      simp only [Bool.and_eq_true] at hw
      obtain ⟨_,hw2⟩:=hw
      split at hw2
      case h_2=>cases hw2
      rename_i te hte
      simp only [Bool.and_eq_true,decide_eq_true_eq] at hw2
      obtain ⟨hw2,hpos⟩:=hw2
      have hce:=cellsOf_of (hC _ _ hte)
      rcases Go.Deep.open_slice hd h with ⟨rfl,_⟩ | ⟨a,len,cap,m,n',Dd,Pl,rfl,hb,hl,hm,hmm,_,hx⟩
      · exact ⟨[.sl true [] 0 none],by simp [zU,Rep],.inl rfl⟩
      · have hlm:len≤m:=by rw [hmm]; split <;> omega
        have hsp:0 < len→a.spot=none:=fun hpl=>by
          obtain ⟨cs',c1,c2⟩:=hx 0 (by omega)
          obtain ⟨_,c3,c4⟩:=World.cells?_some c1
          rw [hce] at c3 c4
          have:=World.cell?_spot ((c4 0 hpos).trans (List.getElem?_eq_getElem (by rw [c3]; exact hpos)))
          simpa [Addr.add] using this
        obtain ⟨b,o,s⟩:=a
        simp only [] at hsp
        obtain ⟨G,hG⟩:=Go.Deep.choose_lt (α:=D) (p:=fun i d=>(∃ u,Rep (memOf w) noLoc d u∧u.cells.size=te.size∧MemAt (memOf w) b (o+i * te.size) u.cells)∧Sh C f e d.cells∧(te.isAgg=true→d=.agg d.cells)∧(te.isAgg=false→d.cells=[d])) (n:=len) (fun i hi=>by
          obtain rfl:=hsp (by omega)
          obtain ⟨cs',c1,c2⟩:=hx i (by omega)
          obtain ⟨_,c3,c4⟩:=World.cells?_some c1
          obtain ⟨ds,q1,q2⟩:=trod_rep' hC f n' e cs' _ c2 ht hw2
          rw [hce] at c3 c4
          have hM:MemAt (memOf w) b (o+i * te.size) cs'.toArray:=by
            intro j u hu
            have hj:j < te.size:=by
              have:=(Array.getElem?_eq_some_iff.1 hu).1; simpa [c3] using this
            have:=c4 j hj
            rw [addr_add,addr_add] at this
            unfold memOf
            rw [this]; simpa using hu
          cases hag:te.isAgg with
          | true =>
            refine ⟨.agg ds,⟨.agg cs'.toArray,?_,by simpa [Value.cells] using c3,hM⟩,q2,fun _=>rfl,fun h=>by simp at h⟩
            simp only [Rep]; exact ⟨_,rfl,by simpa using q1⟩
          | false =>
            obtain ⟨i2,d2,_,hd2,_,hk2,_,_⟩:=tyOf_spec (hC _ _ hte)
            have h1:te.size=1∧∃ d v,ds=[d]∧d.cells=[d]∧cs'=[v]∧v.cells=#[v]:=by
              cases f with
              | zero=>cases ht
              | succ f =>
                unfold topT at ht; unfold rowedT at hw2; unfold Sh at q2
                rw [hte] at ht hw2 q2; simp only [] at ht hw2 q2
                cases d2 <;> simp only [tkOf] at hk2 <;> rw [hk2] at ht hw2 q2 <;> simp only [] at ht hw2 q2 <;> (try (cases ht; done))
                · obtain ⟨b',rfl⟩:=q2
                  simp only [zU,Rep] at q1
                  obtain ⟨v,r,rfl,rfl,rfl⟩:=q1
                  exact ⟨by simpa using hw2,_,_,rfl,rfl,rfl,rfl⟩
                · obtain ⟨z,rfl,_⟩:=q2
                  simp only [zU,Rep] at q1
                  obtain ⟨v,r,rfl,rfl,rfl⟩:=q1
                  exact ⟨by simpa using hw2,_,_,rfl,rfl,rfl,rfl⟩
                · obtain ⟨z,rfl,_⟩:=q2
                  simp only [zU,Rep] at q1
                  obtain ⟨v,r,rfl,rfl,rfl⟩:=q1
                  exact ⟨by simpa using hw2,_,_,rfl,rfl,rfl,rfl⟩
                all_goals first
                  | (simp [Ty.isAgg,hk2] at hag; done)
                  | (simp only [Bool.and_eq_true] at hw2
                     rcases q2 with rfl | ⟨els,te',_,rfl,_⟩
                     all_goals
                       simp only [zU] at q1
                       obtain ⟨v,r,rfl,q1,rfl⟩:=q1
                       refine ⟨by simpa using hw2.1,_,v,rfl,rfl,rfl,?_⟩
                       simp only [Rep] at q1
                     · rw [(q1.1 trivial).2]; rfl
                     · obtain ⟨_,_,_,_,h1,_⟩:=q1.2 trivial; rw [h1]; rfl)
            obtain ⟨hsz,dd,v,rfl,hdc,rfl,hvc⟩:=h1
            simp only [zU] at q1
            obtain ⟨v',r,e1,q1,rfl⟩:=q1
            cases e1
            refine ⟨dd,⟨v,q1,by rw [hvc,hsz]; rfl,by rw [hvc]; exact hM⟩,by rw [hdc]; exact q2,fun h=>by simp at h,fun _=>hdc⟩)
        refine ⟨[.sl false ((List.range len).map G) te.size none],?_,.inr ⟨_,te,hte,rfl,by simp; omega,fun d hd'=>?_⟩⟩
        · simp only [zU,Rep]
          refine ⟨_,[],rfl,⟨by simp,fun _=>⟨b,o,s,cap,by simp,fun hne=>hsp (by
            rcases Nat.eq_zero_or_pos len with h0 | h0
            · subst h0; exact absurd rfl hne
            · exact h0),by simpa using hl,hm,by simp,RepE.ofGet fun i d hd'=>?_⟩⟩,rfl⟩
          rw [List.getElem?_map] at hd'
          have hi':i < len:=by
            rcases Nat.lt_or_ge i len with h | h
            · exact h
            · rw [List.getElem?_eq_none (by simpa using h)] at hd'; cases hd'
          rw [List.getElem?_range hi'] at hd'; cases hd'
          exact (hG i hi').1
        · obtain ⟨i,hi',rfl⟩:=List.mem_map.1 hd'
          exact (hG i (by simpa using hi')).2
theorem trod_rep (hC:∀ t ty,C.ty t=some ty→tyOf C.P t=some ty) (f n:Nat) (t:TypeId) (cs:List Value) (x:DataW H × List MemPlace)
  (h:DataW.trod enc C.P w base sp held n t cs=some x) (h1:topT C f t=true) (h2:rowedT C f t=true) (_:plainCells cs ∨ flatT C f t=true):∃ ds,zU (memOf w) noLoc ds cs∧Sh C f t ds:=trod_rep' hC f n t cs x h h1 h2

theorem plain_arg {P:Program} {r:Reach} {base:Nat} {t:TypeId} {v:Value} (h:Value.okWide P w r base t v):plainCells v.cells.toList:=by
 have key:∀ u x,Cell.okWide P w r base u x→∀ a l c,x=.slice (some a) l c→a.spot=none:=by
  rintro u x hx a l c rfl
  unfold Cell.okWide at hx
  split at hx <;> try (rename_i h1 h2; cases h2; done)
  unfold Cell.ok at hx
  split at hx <;> try (rename_i h1 h2; cases h2; done)
  ·rename_i h1 h2
   cases h2
   exact hx.2.2.2.1
  ·cases hx
 unfold Value.okWide at h
 split at h
 ·obtain ⟨cs,rfl,_,ts,_,_,hc⟩:=h
  intro x hx
  obtain ⟨i,hi⟩:=List.mem_iff_getElem?.1 hx
  obtain ⟨u,_,hu⟩:=hc i x (by simpa [Value.cells] using hi)
  exact key u x hu
 ·obtain ⟨cs,rfl,_,ts,_,_,hc⟩:=h
  intro x hx
  obtain ⟨i,hi⟩:=List.mem_iff_getElem?.1 hx
  obtain ⟨u,_,hu⟩:=hc i x (by simpa [Value.cells] using hi)
  exact key u x hu
 ·intro x hx a l c e
  have hv:x=v ∨ ∃ cs,v=.agg cs:=by
   cases v <;> first | exact .inr ⟨_,rfl⟩ | (left; simpa [Value.cells] using hx)
  rcases hv with rfl | ⟨cs,rfl⟩
  ·exact key t x h a l c e
  ·exfalso
   unfold Cell.okWide at h
   split at h <;> try (rename_i h1 h2; cases h2; done)
   unfold Cell.ok at h
   split at h <;> first | (rename_i h1 h2; cases h2; done) | cases h
end
end Go.VS

namespace Go.VS
open Go Go.RowKit Go.ChangeShapes Go.WideShapes

section
variable {H:Type} {enc:TypeId × Value→H} {P:Program}
theorem trodAll_carry {w w':World} {base:Nat} {sp:Nat→Bool} {held:Bool}:∀ {ts:List TypeId} {vs:List Value} {ds:List (DataW H)} {ps:List MemPlace},DataW.TrodAll enc P w base sp held ts vs ds ps→(∀ p∈ps,w.sameAt w' p)→DataW.TrodAll enc P w' base sp held ts vs ds ps
 | [],[],[],_,h,_=>h
 | _::_,_::_,_::_,_,⟨p,q,⟨n,h1⟩,h2,e⟩,hs=>⟨p,q,⟨n,DataW.trod_carry n _ _ _ h1 (fun x hx=>hs x (by rw [e]; exact List.mem_append_left _ hx))⟩,trodAll_carry h2 (fun x hx=>hs x (by rw [e]; exact List.mem_append_right _ hx)),e⟩
theorem sameAt_of {w w':World} (h:∀ b,b < w.heap.size→w'.heap[b]?=w.heap[b]?):∀ p:MemPlace,p.block < w.heap.size→w.sameAt w' p
 | .cell b off,hp=>by
  show w'.cell? ⟨b,off,none⟩=w.cell? ⟨b,off,none⟩
  unfold World.cell?
  rw [h b hp]
 | .map b,hp=>h b hp
theorem post_same {f:Func} {s:ChangeSpec} {apart fresh handsOn again:Bool} {W W':World} {args:Array Value} {v:Value} {ds gs:List (DataW H)} {before pa pv:List MemPlace}
  (hW:DataW.Whole enc P f.params.toList s.vars apart W args.toList ds gs before)
  (hres:∀ (b:Nat) (sp:Nat→Bool) (hd:Bool),DataW.TrodAll enc P W' b sp hd f.resultTypes.toList (v.resultList f.resultTypes.size) (s.fn H (ds++gs)).results [])
  (hargs:∀ sp:Nat→Bool,(∀ p∈before,sp p.block=true)→DataW.TrodAll enc P W' 0 sp true f.params.toList args.toList (s.fn H (ds++gs)).args pa)
  (hvars:∀ sp:Nat→Bool,(∀ p∈before,sp p.block=true)→DataW.TrodVars enc P W' sp s.vars (s.fn H (ds++gs)).vars pv)
  (hps:before=pa++pv) (hk:W.keptBut W' (·∈before)) (hfz:∀ p∈before,∀ b off,p=.cell b off→W'.frozen? ⟨b,off,none⟩=W.frozen? ⟨b,off,none⟩)
  (hok:∀ (j:Nat) (t:TypeId) (r:Value),f.resultTypes[j]?=some t→(v.resultList f.resultTypes.size)[j]?=some r→Value.okWide P W' .any 0 t r) :
  s.post enc P f apart fresh handsOn again W args v W':=by
 have hold:∀ p∈before,(fun b=>decide (b < W.heap.size)) p.block=true:=fun p hp=>by simpa using hW.lt p hp
 refine ⟨ds,gs,before,[],pa,pv,hW,hres _ _ _,hargs _ hold,hvars _ hold,World.keptBut_mono (fun p hp=>⟨hp,?_⟩) hk,fun _=>?_⟩
 ·rw [hps,List.mem_append] at hp
  exact Or.inr hp
 ·obtain ⟨_,_,_,_,_,hz,hn⟩:=hW
  refine ⟨hok,_,_,([]++pa)++pv,⟨[]++pa,pv,trodAll_append (hargs _ (fun _ _=>rfl)) (hres _ _ _),hvars _ (fun _ _=>rfl),rfl,?_,?_⟩,?_⟩
  ·intro b off hp
   have hp':MemPlace.cell b off∈before:=by rw [hps]; simpa using hp
   rw [hfz _ hp' b off rfl]
   exact hz b off hp'
  ·intro ha
   have:=hn ha
   rw [hps] at this
   simpa using this
  ·intro p hp _
   rw [hps]
   simpa using hp

theorem law_post {C:Cfg} (hC:CfgOK C) (hX:ExtOK C) (hl:laidOutB C.P=true) (hm:mapsRowed C.P=true) (hz:∀ t e,t < C.P.types.size→C.P.underlying t=some (.slice e)→0 < C.P.cellsOf e)
  {K:FuncId} {dsD:List D} (hpure:(lim C).pure K dsD=some (B true)) {W:World} {args:Array Value} (hrep:zU (memOf W) noLoc dsD args.toList) (hG:yx C (memOf W))
  {f:Func} {s:ChangeSpec} {apart fresh handsOn again:Bool} {ds gs:List (DataW H)} {before:List MemPlace}
  (hW:DataW.Whole enc C.P f.params.toList s.vars apart W args.toList ds gs before) (hv:s.vars=[])
  (hfn:s.fn H ds={ results:=[.lit (.bool true)],args:=ds }) {tb:TypeId} (hres:f.resultTypes=#[tb]) (htb:C.P.underlying tb=some .bool)
  (hts:∀ t∈f.params.toList,t < C.P.types.size) (hTab:TabOK C W:=by intro g cs h; cases h) :
  Calls C.P K args W fun e W'=>∃ v,e=.returned v∧s.post enc C.P f apart fresh handsOn again W args v W':=by
 refine (lim_sound hC hX hpure (memOf W) W args (memOf_ok W) hG hTab hrep).mono ?_
 rintro e W' ⟨v,M',rfl,k1,k2,k3,k4,k5,k6,k7,k8,k9⟩
 simp only [Rep] at k3; subst k3
 have hW':=hW
 obtain ⟨p,q,hA,hVars,rfl,hnf,hnd⟩:=hW'
 rw [hv] at hVars
 obtain ⟨rfl,rfl⟩:gs=[]∧q=[]:=by
  cases gs with
  | nil=>exact ⟨rfl,hVars⟩
  | cons g gs=>cases hVars
 have hlt:=hW.lt
 refine ⟨_,rfl,post_same (pa:=p) (pv:=[]) hW ?_ ?_ ?_ rfl ?_ ?_ ?_⟩
 ·intro b sp hd
  rw [List.append_nil,hfn,hres]
  refine ⟨[],[],⟨1,?_⟩,rfl,rfl⟩
  simp [DataW.trod,htb,Value.cells]
 ·intro sp hsp
  rw [List.append_nil,hfn]
  refine trodAll_carry (DataW.TrodAll.respare (T:=(· < C.P.types.size)) (kids_rows hl hm) hz hts hA (fun p hp=>hsp p (by simpa using hp))) (fun p hp=>sameAt_of k8 p (hlt p (by simpa using hp)))
 ·intro sp hsp
  rw [List.append_nil,hfn,hv]; rfl
 ·refine ⟨k4.1,k6,fun i hi=>?_⟩
  rw [k8 i hi]
  cases hh:W.heap[i]? with
  | none=>trivial
  | some o=>cases o <;> simp
 ·rintro _ hp b off rfl
  unfold World.frozen?
  rw [k8 b (hlt _ hp)]
 ·intro j t r h1 h2
  rw [hres] at h1 h2
  cases j with
  | zero =>
   simp at h1; subst h1
   simp [Value.resultList] at h2; subst h2
   simp [Value.okWide,htb,Cell.okWide,Cell.ok]
  | succ j=>simp at h1
end
end Go.VS

namespace Go.VS
open Go Go.RowKit Go.Proofs Go.Sort Go.Shelf
def pairV (x:Int × Int):List Value:=[.int .i64 x.1,.int .i64 x.2]
def pairD (x:Int × Int):D:=.agg [I x.1,I x.2]
section
variable {C:Cfg} {E:Env C} {M:Mem} {m:Loc} {w:World} {g:Nat→Option Ob}
theorem Rel.ahead (h:Rel E M m w g) (n:Nat):Rel E M m (Sort.ahead w n) g :=
 ⟨⟨h.os.1,fun q=>Nat.le_trans (h.os.2 q) (Nat.le_add_right _ _)⟩,h.tape,h.output,h.size,h.keep,h.frlt,h.mfr,h.mok,⟨h.ro.at_,h.ro.excl,h.ro.inj,h.ro.fr⟩⟩
theorem grow_heap (w:World) (os:Array Obj) {b:Nat} (h:b < w.heap.size):(grow w os).heap[b]?=w.heap[b]?:=by
 show (w.heap++os)[b]?=_
 rw [Array.getElem?_append_left h]
theorem Rel.grow (h:Rel E M m w g) (os:Array Obj):Rel E M m (Sort.grow w os) g:=by
 refine ⟨h.os,h.tape,h.output,?_,fun b hb=>?_,h.frlt,h.mfr,fun b i v hv=>?_,⟨fun x ob hx=>?_,h.ro.excl,h.ro.inj,h.ro.fr⟩⟩
 ·show _≤(w.heap++os).size
  have:=h.size
  simp
  omega
 ·rw [grow_heap w os (Nat.lt_of_lt_of_le (h.frlt b hb) h.size)]; exact h.keep b hb
 ·have:=h.mok b i v hv
  have hlt:=World.block_lt_of_cell? w _ this
  unfold World.cell? at this ⊢
  rw [grow_heap w os hlt]
  exact this
 ·obtain ⟨b,s,c,t,q1,q2,q3,q4⟩:=h.ro.at_ x ob hx
  exact ⟨b,s,c,t,q1,by rw [grow_heap w os (Array.getElem?_eq_some_iff.1 q2).1]; exact q2,q3,q4⟩
theorem mapBlock_setRow {b:Nat} {c:Array Value} {t:TypeId} {fr:Nat × Nat} (h:w.heap[b]?=some (.cells c t fr)) (f:Array Value→Array Value):mapBlock w b f=w.setRow b (f c):=by
 unfold mapBlock World.setRow
 congr 1
 refine Array.ext_getElem? fun i=>?_
 simp only [Array.getElem?_modify]
 by_cases hi:b=i
 ·subst hi
  simp only [if_true,h,Option.map_some,onCells]
 ·simp only [hi,if_false]
theorem flat_get (l:List (Int × Int)) {i j:Nat} (hi:i < l.length) (hj:j < 2):(flatK pairV 2 l.toArray)[i * 2+j]! = (pairV l[i])[j]!:=by
 rw [get_flatK pairV 2 l.toArray _ (by simp; omega)]
 have e1:(i * 2+j) / 2=i:=by omega
 have e2:(i * 2+j) % 2=j:=by omega
 rw [e1,e2]
 simp [hi]
theorem pairD_rep (x:Int × Int):Rep M m (pairD x) (.agg (pairV x).toArray):=by
 simp only [pairD,Rep]
 exact ⟨_,rfl,by simp [zU,Rep,pairV]⟩
theorem pairD_inv {x:Int × Int} {u:Value} (h:Rep M m (pairD x) u):u=.agg (pairV x).toArray:=by
 simp only [pairD,Rep] at h
 obtain ⟨vs,rfl,h⟩:=h
 simp only [zU,Rep] at h
 obtain ⟨v,r,e1,rfl,v2,r2,e2,rfl,e3⟩:=h
 subst e3 e2
 have:vs=[Value.int .i64 x.1,Value.int .i64 x.2].toArray:=by rw [← e1]
 rw [this]; rfl
theorem pair_cell {x:Int × Int} {j:Nat} (hj:j < 2):(Value.agg (pairV x).toArray).cells[j]?=some (pairV x)[j]!:=by
 have:j=0 ∨ j=1:=by omega
 rcases this with rfl | rfl <;> rfl
theorem rel_sort {o:Nat} {l:List (Int × Int)} (h:Rel E M m w (zB [(o,⟨l.map pairD,2,false⟩)])) {b s:Nat} (hb:m o=some (b,s)) (l':List (Int × Int)) (hl:l'.length=l.length) (n:Nat) (os:Array Obj) :
  Rel E M m (sortWorldK pairV 2 w b 0 n l'.toArray os) (zB [(o,⟨l'.map pairD,2,false⟩)]):=by
 unfold sortWorldK putRowK putRow
 refine Rel.grow ?_ os
 have h1:=h.ahead n
 have hg:zB [(o,⟨l.map pairD,2,false⟩)] o=some ⟨l.map pairD,2,false⟩:=by simp [zB,yz.2 rfl]
 obtain ⟨b1,s1,c,t,q1,q2,q3,q4⟩:=h1.ro.at_ o _ hg
 rw [hb] at q1; cases q1
 rw [mapBlock_setRow q2]
 have hsz:l.length * 2≤c.size:=by have:=q4.1; simpa using this
 have k:=Rel.set (ob':=⟨l'.map pairD,2,false⟩) h1 hg rfl hb q2 (c':=putCells id 0 (flatK pairV 2 l'.toArray) c) (by simp [putCells]) ⟨by simp [putCells]; omega,fun i d hd=>by
  simp only [List.getElem?_map,Option.map_eq_some_iff] at hd
  obtain ⟨x,hx,rfl⟩:=hd
  have hi:i < l'.length:=(List.getElem?_eq_some_iff.1 hx).1
  have hx':l'[i]=x:=(List.getElem?_eq_some_iff.1 hx).2
  refine ⟨_,pairD_rep x,rfl,fun j y hy=>?_⟩
  have hj:j < 2:=by
   rcases Nat.lt_or_ge j 2 with hh | hh
   ·exact hh
   ·rw [Array.getElem?_eq_none (by simpa [Value.cells,pairV] using hh)] at hy; cases hy
  rw [pair_cell hj] at hy
  cases hy
  have hlt:i * 2+j < c.size:=by omega
  simp only [putCells,Array.getElem?_mapIdx,Array.getElem?_eq_getElem hlt,Option.map_some,size_flatK,List.size_toArray,Nat.zero_le,Nat.zero_add,true_and,Nat.sub_zero]
  rw [if_pos (by omega),flat_get l' hi hj,hx']
  rfl⟩
 have e:(fun x=>if x=o then some (⟨l'.map pairD,2,false⟩:Ob) else zB [(o,⟨l.map pairD,2,false⟩)] x)=zB [(o,⟨l'.map pairD,2,false⟩)]:=by
  funext x
  by_cases hx:x=o
  ·subst hx; simp [zB,yz.2 rfl]
  ·have:eqb o x=false:=eqb_false.2 (fun e=>hx e.symm)
   simp [zB,this,hx]
 rw [e] at k
 exact k
theorem holds_row {o:Nat} {l:List (Int × Int)} (h:Rel E M m w (zB [(o,⟨l.map pairD,2,false⟩)])) {b s:Nat} (hb:m o=some (b,s)):HoldsK pairV 2 w b 0 l.toArray∧b < w.heap.size:=by
 have hg:zB [(o,⟨l.map pairD,2,false⟩)] o=some ⟨l.map pairD,2,false⟩:=by simp [zB,yz.2 rfl]
 obtain ⟨b1,s1,c,t,q1,q2,q3,q4⟩:=h.ro.at_ o _ hg
 rw [hb] at q1; cases q1
 refine ⟨fun p hp=>?_,(Array.getElem?_eq_some_iff.1 q2).1⟩
 simp only [size_flatK,List.size_toArray] at hp
 have hi:p / 2 < l.length:=by omega
 have hj:p % 2 < 2:=by omega
 have hp':p=p / 2 * 2+p % 2:=by omega
 obtain ⟨u,u1,u2,u3⟩:=q4.2 (p / 2) (pairD l[p / 2]) (by simp [List.getElem?_map,List.getElem?_eq_getElem hi])
 rw [pairD_inv u1] at u3
 have hc:=u3 (p % 2) _ (pair_cell hj)
 simp only [] at hc
 rw [← hp'] at hc
 have hf:(flatK pairV 2 l.toArray)[p]! = (pairV l[p / 2])[p % 2]!:=by
  have:=flat_get l hi hj
  rwa [← hp'] at this
 constructor
 ·simp only [World.cell?,q2,Option.isSome_none,Bool.false_eq_true,if_false,Nat.zero_add,hc,hf,id]
 ·simp [World.frozen?,q2]
end
end Go.VS

namespace Go.VS
open Go Go.RowKit Go.Proofs Go.Sort Go.Shelf
def srtP (cf:Int × Int→Int × Int→Int) (l:List (Int × Int)):List (Int × Int):=(pdq (ltOf cf) l.toArray 0 l.length (Lib.bitLen l.length) true true).toList
section
variable {cf:Int × Int→Int × Int→Int}
theorem srtP_in (hO:SWO (ltOf cf)) (l:List (Int × Int)):PermIn 0 l.length l.toArray (pdq (ltOf cf) l.toArray 0 l.length (Lib.bitLen l.length) true true)∧SortedIn (ltOf cf) 0 l.length (pdq (ltOf cf) l.toArray 0 l.length (Lib.bitLen l.length) true true) :=
 pdq_sorts (ltOf cf) hO l.toArray 0 l.length (Lib.bitLen l.length) true true (Nat.zero_le _) (by simp) (Or.inl rfl)
theorem srtP_perm (hO:SWO (ltOf cf)) (l:List (Int × Int)):List.Perm (srtP cf l) l:=by
 have h:=(srtP_in hO l).1
 have h1:=h.1
 have h2:=h.2.2
 have e1:∀ d:Array (Int × Int),d.size=l.length→d.extract 0 l.length=d:=fun d hd=>by rw [← hd]; exact Array.extract_size
 rw [e1 _ (by simpa using h1),e1 _ (by simp)] at h2
 exact h2
theorem srtP_len (hO:SWO (ltOf cf)) (l:List (Int × Int)):(srtP cf l).length=l.length:=(srtP_perm hO l).length_eq
theorem srtP_sorted (hO:SWO (ltOf cf)) (l:List (Int × Int)):(srtP cf l).Pairwise (fun x y=>ltOf cf y x=false):=by
 have h:=(srtP_in hO l)
 rw [List.pairwise_iff_getElem]
 intro i j hi hj hij
 have hs:(pdq (ltOf cf) l.toArray 0 l.length (Lib.bitLen l.length) true true).size=l.length:=by simpa using h.1.1
 have hi':i < l.length:=by rw [← srtP_len hO l]; exact hi
 have hj':j < l.length:=by rw [← srtP_len hO l]; exact hj
 have k:=h.2 i j (Nat.zero_le _) hij hj'
 rw [getElem!_pos _ i (by omega),getElem!_pos _ j (by omega)] at k
 exact k
end
section
variable {C:Cfg} {ρ:Ren} {E:Env C} {M:Mem} {m:Loc} {w:World}
theorem grown_of {W w':World} (h1:w'.os=W.os) (h2:W.drawn≤w'.drawn) (h3:w'.tape=W.tape) (h4:w'.output=W.output) (h5:W.heap.size≤w'.heap.size) (h6:∀ b,b < W.heap.size→w'.heap[b]?=W.heap[b]?) :
  ∃ q os',w'=grow (W.drewN q) os':=by
 refine ⟨w'.drawn - W.drawn,w'.heap.extract W.heap.size w'.heap.size,?_⟩
 unfold grow World.drewN
 have e1:W.heap++w'.heap.extract W.heap.size w'.heap.size=w'.heap:=by
  refine Array.ext_getElem? fun i=>?_
  rw [Array.getElem?_append]
  split
  ·rename_i hi; exact (h6 i hi).symm
  ·rename_i hi
   rw [Array.getElem?_extract]
   by_cases hlt:i < w'.heap.size
   ·rw [if_pos (by omega)]; congr 1; omega
   ·rw [if_neg (by omega),Array.getElem?_eq_none (by omega)]
 cases w'
 simp only [] at *
 subst h1 h3 h4
 simp only [World.mk.injEq,e1,true_and,and_true]
 omega
def PureQ (P:Program) (K:FuncId) (args:List D) (d:D):Prop :=
 ∀ (M:Mem) (w:World) (vs:Array Value),MOK M w→zU M noLoc args vs.toList →
  Calls P K vs w fun e w'=>∃ v M',e=.returned v∧Rep M' noLoc d v∧(w'.os=w.os∧w.drawn≤w'.drawn)∧w'.tape=w.tape∧w'.output=w.output ∧
   w.heap.size≤w'.heap.size∧(∀ b,b < w.heap.size→w'.heap[b]?=w.heap[b]?)
theorem pureQ_of {C0:Cfg} (hd:C0.dr=true) (hg:∀ M,yx C0 M) (ht:∀ w,TabOK C0 w) {K:FuncId} {args:List D} {d:D} (h:PureOK C0 K args d):PureQ C0.P K args d:=fun M w vs h1 h2=>by
 refine (h M w vs h1 (hg M) (ht w) h2).mono ?_
 rintro e w' ⟨v,M',k1,_,_,k3,k4,k5,k6,k7,k8,_⟩
 exact ⟨v,M',k1,k3,⟨k4.1,k4.2 hd⟩,k5,k6,k7,k8⟩
theorem cmp_lays {g:Nat} {cf:Int × Int→Int × Int→Int} (hcmp:∀ x y,PureQ C.P g [pairD x,pairD y] (I (cf x y))) {o:Nat} {l:List (Int × Int)} (h:Rel E M m w (zB [(o,⟨l.map pairD,2,false⟩)])) {b s:Nat} (hb:m o=some (b,s)) :
  CmpLays C.P g #[] pairV 2 cf b 0 l.length w:=by
 intro n os dk hdk x y
 have hR:=rel_sort h hb dk.toList (by simpa using hdk) n os
 have hdl:dk.toList.toArray=dk:=by simp
 rw [hdl] at hR
 have hr:zU M noLoc [pairD x,pairD y] (#[Value.agg (pairV x).toArray,Value.agg (pairV y).toArray]++#[]:Array Value).toList:=by
  show zU M noLoc [pairD x,pairD y] [.agg (pairV x).toArray,.agg (pairV y).toArray]
  simp only [zU]
  exact ⟨_,_,rfl,pairD_rep x,_,_,rfl,pairD_rep y,rfl⟩
 have hk:=hcmp x y M _ _ hR.mok hr
 generalize sortWorldK pairV 2 w b 0 n dk os=W at hk ⊢
 refine hk.mono ?_
 ·rintro e w' ⟨v,M',rfl,k3,k4,k5,k6,k7,k8⟩
  simp only [Rep] at k3
  subst k3
  exact ⟨rfl,grown_of k4.1 k4.2 k5 k6 k7 k8⟩
theorem sort_inl (L:SlLaysF0.n6 C.P ρ) (hC:CfgOK C) (aE:∀ w,(isAgg (ρ.t 24)).run C.P w=.ok true w) (zE:∀ w,(Go.sizeOf (ρ.t 24)).run C.P w=.ok 2 w) {cf:Int × Int→Int × Int→Int} (hO:SWO (ltOf cf)) {g:Nat} {fg:Func} (hg:C.fn g=some fg)
  (hcmp:∀ x y,PureQ C.P g [pairD x,pairD y] (I (cf x y))) (o nxt:Nat) (cap:Option Nat) (l:List (Int × Int)) (hl:l.length≤1099511627776) :
  InlOK C (ρ.f 6) [.lsl o 0 l.length 2 cap,.fn (.func g) [] []] [(o,⟨l.map pairD,2,false⟩)] nxt (.tup []) [(o,⟨(srtP cf l).map pairD,2,false⟩)] nxt:=by
 intro E M m w vs hR hG hA hf ho
 simp only [zU,Rep] at hA
 obtain ⟨v,r,e0,⟨b,s,c,hb,rfl,hn,_⟩,v2,r2,rfl,⟨xs,ys,rfl,hx,hy⟩,rfl⟩:=hA
 have hx':xs=#[]:=by cases xs; simp_all
 have hy':ys=#[]:=by cases ys; simp_all
 subst hx' hy'
 have hvs:vs=#[.slice (some ⟨b,0,none⟩) l.toArray.size c,.func (.func g) #[] #[]]:=by
  cases vs
  simp only [] at e0
  subst e0
  simp
 obtain ⟨hH,hblk⟩:=holds_row hR hb
 have hc:=AnyQ.slices_SortFunc_eq L 2 aE zE pairV (fun _=>rfl) (fun x v hv=>by simp [pairV] at hv; rcases hv with rfl | rfl <;> rfl) cf hO g #[] b 0 c l.toArray w (fun args w=>run_callFunc hC hg args) (cmp_lays hcmp hR hb) hH hblk (by simp; omega)
 rw [hvs]
 refine hc.mono ?_
 rintro e w' ⟨rfl,n,os,rfl⟩
 refine ⟨_,M,m,rfl,MLe.refl _,fun _ _=>rfl,fun x hx hx'=>hf x hx',?_,?_⟩
 ·simp only [Rep]; exact ⟨#[],rfl,by simp [zU]⟩
 ·have k:=rel_sort hR hb (srtP cf l) (srtP_len hO l) n os
  unfold srtP at k ⊢
  simpa using k
end
end Go.VS

namespace Go.VS
open Go Go.RowKit Go.Proofs Go.Sort Go.Shelf
def unI:D→Option Int
 | .val v=>match v with
  | .int k n=>match k with
   | .i64=>some n
   | _=>none
  | _=>none
 | _=>none
def unP:D→Option (Int × Int)
 | .agg cs=>match cs with
  | [a,b]=>match unI a,unI b with
   | some x,some y=>some (x,y)
   | _,_=>none
  | _=>none
 | _=>none
def unPs:List D→Option (List (Int × Int))
 | []=>some []
 | d::ds=>match unP d,unPs ds with
  | some x,some l=>some (x::l)
  | _,_=>none
theorem unI_eq {d:D} {n:Int} (h:unI d=some n):d=I n:=by
 unfold unI at h
 split at h
 ·split at h
  ·split at h
   ·cases h; rfl
   ·cases h
  ·cases h
 ·cases h
theorem unP_eq {d:D} {x:Int × Int} (h:unP d=some x):d=pairD x:=by
 unfold unP at h
 split at h
 ·split at h
  ·split at h
   ·rename_i e1 e2; cases h; rw [unI_eq e1,unI_eq e2]; rfl
   ·cases h
  ·cases h
 ·cases h
theorem unPs_eq:∀ {ds:List D} {l:List (Int × Int)},unPs ds=some l→ds=l.map pairD
 | [],l,h=>by simp [unPs] at h; subst h; rfl
 | d::ds,l,h=>by
  unfold unPs at h
  split at h
  ·rename_i e1 e2; cases h; rw [unP_eq e1,unPs_eq e2]; rfl
  ·cases h
theorem unPs_map (l:List (Int × Int)):unPs (l.map pairD)=some l:=by
 induction l with
 | nil=>rfl
 | cons x l ih=>simp only [List.map_cons,unPs,ih]; rfl
def sortX (g:FuncId) (cf:Int × Int→Int × Int→Int) (args:List D) (objs:List (Nat × Ob)) (nxt:Nat):Option (D × List (Nat × Ob) × Nat) :=
 match args,objs with
 | [.lsl o off n sz _,.fn (.func g') [] []],[(o',ob)] =>
  if o'=o∧off=0∧sz=2∧g'=g∧ob.sz=2∧ob.froz=false∧n=ob.els.length∧n≤1099511627776 then
   match unPs ob.els with
   | some l=>some (.tup [],[(o,⟨(srtP cf l).map pairD,2,false⟩)],nxt)
   | none=>none
  else none
 | _,_=>none
section
variable {C:Cfg} {ρ:Ren}
theorem sortX_ok (L:SlLaysF0.n6 C.P ρ) (hC:CfgOK C) (aE:∀ w,(isAgg (ρ.t 24)).run C.P w=.ok true w) (zE:∀ w,(Go.sizeOf (ρ.t 24)).run C.P w=.ok 2 w) {cf:Int × Int→Int × Int→Int} (hO:SWO (ltOf cf)) {g:Nat} {fg:Func} (hg:C.fn g=some fg)
  (hcmp:∀ x y,PureQ C.P g [pairD x,pairD y] (I (cf x y))) {args:List D} {objs objs':List (Nat × Ob)} {nxt nxt':Nat} {d:D} (h:sortX g cf args objs nxt=some (d,objs',nxt')):InlOK C (ρ.f 6) args objs nxt d objs' nxt':=by
 unfold sortX at h
 split at h
 ·rename_i o off n sz cap g' o' ob
  split at h
  ·rename_i hc
   obtain ⟨rfl,rfl,rfl,rfl,h1,h2,rfl,h4⟩:=hc
   split at h
   ·rename_i l hl
    cases h
    obtain ⟨els,sz,fr⟩:=ob
    simp only at h1 h2 hl h4
    subst h1 h2
    have:=unPs_eq hl
    subst this
    rw [List.length_map] at h4 ⊢
    exact sort_inl L hC aE zE hO hg hcmp o' nxt cap l h4
   ·cases h
  ·cases h
 ·cases h
theorem sortX_at {α:Type} {f:α→D} {to:α→Int × Int} {of:Int × Int→α} (hf:∀ x,f x=pairD (to x)) (ho:∀ p,f (of p)=pairD p) {g:Nat} {cf:Int × Int→Int × Int→Int} (o nxt:Nat) (cap:Option Nat) (l:List α) (hl:l.length≤1099511627776) :
  sortX g cf [.lsl o 0 l.length 2 cap,.fn (.func g) [] []] [(o,⟨l.map f,2,false⟩)] nxt=some (.tup [],[(o,⟨((srtP cf (l.map to)).map of).map f,2,false⟩)],nxt):=by
 have e1:l.map f=(l.map to).map pairD:=by rw [List.map_map]; exact List.map_congr_left fun x _=>hf x
 have e2:((srtP cf (l.map to)).map of).map f=(srtP cf (l.map to)).map pairD:=by rw [List.map_map]; exact List.map_congr_left fun x _=>ho x
 unfold sortX
 simp only [e1,e2,List.length_map,hl,and_self,if_true,unPs_map]
end
end Go.VS

namespace Go.VS
open Go Go.RowKit Go.Proofs Go.Sort Go.Shelf
def isNilS:D→Bool
 | .sl nl els sz cap=>nl && els.isEmpty && eqb sz 0 && cap.isNone
 | _=>false
theorem isNilS_eq {d:D} (h:isNilS d=true):d=.sl true [] 0 none:=by
 unfold isNilS at h
 split at h
 ·rename_i nl els sz cap
  simp only [Bool.and_eq_true,List.isEmpty_iff,Option.isNone_iff_eq_none] at h
  obtain ⟨⟨⟨rfl,rfl⟩,h3⟩,rfl⟩:=h
  rw [yz.1 h3]
 ·cases h
def sortN (g:FuncId) (cf:Int × Int→Int × Int→Int) (args:List D) (objs:List (Nat × Ob)) (nxt:Nat):Option (D × List (Nat × Ob) × Nat) :=
 match args,objs with
 | [a,.fn (.func g') [] []],[]=>if isNilS a=true∧g'=g then some (.tup [],[],nxt) else none
 | args,objs=>sortX g cf args objs nxt
section
variable {C:Cfg} {ρ:Ren}
theorem sortN_ok (L:SlLaysF0.n6 C.P ρ) (hC:CfgOK C) (aE:∀ w,(isAgg (ρ.t 24)).run C.P w=.ok true w) (zE:∀ w,(Go.sizeOf (ρ.t 24)).run C.P w=.ok 2 w) {cf:Int × Int→Int × Int→Int} (hO:SWO (ltOf cf)) {g:Nat} {fg:Func} (hg:C.fn g=some fg)
  (hcmp:∀ x y,PureQ C.P g [pairD x,pairD y] (I (cf x y))) (hnil:∀ nxt,InlOK C (ρ.f 6) [.sl true [] 0 none,.fn (.func g) [] []] [] nxt (.tup []) [] nxt)
  {args:List D} {objs objs':List (Nat × Ob)} {nxt nxt':Nat} {d:D} (h:sortN g cf args objs nxt=some (d,objs',nxt')):InlOK C (ρ.f 6) args objs nxt d objs' nxt':=by
 unfold sortN at h
 split at h
 ·rename_i a g'
  split at h
  ·rename_i hc
   obtain ⟨h1,rfl⟩:=hc
   cases h
   rw [isNilS_eq h1]
   exact hnil nxt
  ·cases h
 ·exact sortX_ok L hC aE zE hO hg hcmp h
theorem sortN_nil {g:Nat} {cf:Int × Int→Int × Int→Int} (nxt:Nat):sortN g cf [.sl true [] 0 none,.fn (.func g) [] []] [] nxt=some (.tup [],[],nxt):=by
 unfold sortN
 simp [isNilS,yz.2 rfl]
theorem sortN_at {α:Type} {f:α→D} {to:α→Int × Int} {of:Int × Int→α} (hf:∀ x,f x=pairD (to x)) (ho:∀ p,f (of p)=pairD p) {g:Nat} {cf:Int × Int→Int × Int→Int} (o nxt:Nat) (cap:Option Nat) (l:List α) (hl:l.length≤1099511627776) :
  sortN g cf [.lsl o 0 l.length 2 cap,.fn (.func g) [] []] [(o,⟨l.map f,2,false⟩)] nxt=some (.tup [],[(o,⟨((srtP cf (l.map to)).map of).map f,2,false⟩)],nxt):=sortX_at hf ho o nxt cap l hl
end
end Go.VS

namespace Go.VS
open Go Go.RowKit Go.Proofs Go.Sort Go.Shelf
set_option maxHeartbeats 0
def loCmp (cf:Int × Int→Int × Int→Int):Prop:=∀ x y,cf x y < 0↔x.1 < y.1
theorem loCmp.swo {cf:Int × Int→Int × Int→Int} (h:loCmp cf):SWO (ltOf cf) where
 irrefl:=fun x=>decide_eq_false fun k=>by have:=(h x x).1 k; omega
 trans:=fun x y z h1 h2=>decide_eq_true ((h x z).2 (by
  have h1:=(h x y).1 (of_decide_eq_true h1)
  have h2:=(h y z).1 (of_decide_eq_true h2)
  omega))
 ntrans:=fun x y z h1 h2=>decide_eq_false fun k=>by
  have k:=(h x z).1 k
  have h1:=mt (h x y).2 (of_decide_eq_false h1)
  have h2:=mt (h y z).2 (of_decide_eq_false h2)
  omega
def zo (cf:Int × Int→Int × Int→Int) (l:List Sn):List Sn:=(srtP cf (l.map fun s=>(s.lo,s.hi))).map fun p=>⟨p.1,p.2⟩
section
variable {cf:Int × Int→Int × Int→Int} (h:loCmp cf) (l:List Sn)
include h
theorem srtG_len:(zo cf l).length=l.length:=by unfold zo; rw [List.length_map,srtP_len h.swo,List.length_map]
theorem srtG_perm:List.Perm (zo cf l) l:=by
 have:=(srtP_perm h.swo (l.map fun s=>(s.lo,s.hi))).map fun p:Int × Int=>(⟨p.1,p.2⟩:Sn)
 rw [List.map_map] at this
 have e:((fun p:Int × Int=>(⟨p.1,p.2⟩:Sn)) ∘ fun s:Sn=>(s.lo,s.hi))=id:=rfl
 rw [e,List.map_id] at this
 exact this
theorem srtG_srt:srtS (zo cf l):=by
 unfold srtS zo
 rw [List.pairwise_map]
 refine (srtP_sorted h.swo _).imp fun {a b} k=>?_
 have k:=of_decide_eq_false k
 have:=mt (h b a).2 k
 simp only
 omega
end
def can (cf:Int × Int→Int × Int→Int) (l:List Sn):List Sn:=jnL (zo cf l)
theorem can_rg {cf:Int × Int→Int × Int→Int} (h:loCmp cf) {l:List Sn} (hl:∀ s∈l,s.lo≤s.hi):Rg (In l) (can cf l):=by
 have k:=jnL_rg (l:=zo cf l) (fun s hs=>hl s ((srtG_perm h l).mem_iff.1 hs)) (srtG_srt h l)
 exact k.congr fun x=>In_perm (srtG_perm h l)
end Go.VS

namespace Go.VS.F0
open Go Go.Proofs
noncomputable def cfg:Cfg:={ P:=Tryz.prog,fn:=fnTab.find,ty:=tyTab.find,keep:=find2 keepTab,inl:=fun K=>memN K [36,38,43,44,60,61,62,63,64,69,70,72,82,87,96,103,108,110,111,112,117,121,122,132,133,134,135,136,137,138,139,144,145,146,147,158,160,161,162,172,190],ext:=fun _=>none,xinl:=fun _=>none,glob:=fun _=>none,eqok:=fun t=>(eqTab.find t).isSome }
theorem cfg_ty:cfg.ty=tyTab.find:=rfl
theorem cfgOK:CfgOK cfg where
 ty:=fun _ _ h=>tyTab_ok.find h
 fn:=fun _ _ h=>fnTab_ok.find h
 enter:=fun _ _ h=>enTab_ok.find h
 mixed:=by kernel_rfl
 eqok:=fun t h=>by
  have h1:(eqTab.find t).isSome=true:=h
  cases hf:eqTab.find t with
  | none=>rw [hf] at h1; cases h1
  | some u =>
   have:=eqTab_ok.find hf
   unfold eqB at this
   simp only [Bool.and_eq_true,Bool.not_eq_true'] at this
   refine ⟨this.1.1,this.1.2,fun fs hfs f hm=>?_⟩
   have h2:=this.2
   have hfs':Tryz.prog.underlying t=some (.struct fs):=hfs
   rw [hfs'] at h2
   simp only [List.all_eq_true,bne_iff_ne] at h2
   exact h2 f hm
theorem globOK {M:Mem}:yx cfg M:=fun g d h=>by cases h
attribute [go_sem] zs_false
theorem extOK:ExtOK cfg where
 pure:=fun K g args d h=>by cases h
 inl:=fun K g args objs nxt d objs' nxt' h=>by cases h
end Go.VS.F0

namespace Go.VS
open Go
section
variable {α:Type} {f:α→VS.D} {te:Ty} {gO:Nat→Option Ob} {nxt o o2 sz:Nat} {fz:Bool}
theorem map_emp {l:List α} (h:l.isEmpty=false):(l.map f).isEmpty=false:=by cases l with | nil=>cases h | cons a b=>rfl
theorem emp_pos {l:List α} (h:l.isEmpty=false):0 < l.length:=by cases l with | nil=>cases h | cons a b=>simp
theorem elems_deep (s:GS α) (he:s.l.isEmpty=false):elemsD gO (GS.D f sz s)=Option.some (s.l.map f,sz,[]):=by
 have hn:s.nl=false:=nonnil (ne_of_empty he)
 unfold GS.D
 rw [hn]
 simp [elemsD,zsl]
theorem app_new {x:VS.D} {rx:List Nat} {l:List α} {els0:List VS.D} {sz0:Nat} {cap0:Option Nat} (EO:EncOK sz f) (hx:elemsD gO x=Option.some (l.map f,sz,rx)) (he:l.isEmpty=false) (h3:te.size=sz) (h4:zeroOk te=true) (h5:0 < te.size) (hb:l.length * te.bytes≤big∧l.length≤big) :
  appendE te gO nxt (.sl true els0 sz0 cap0) x=Option.some ⟨.lsl nxt 0 l.length sz none,[(nxt,Option.some ⟨l.map f,sz,false⟩)],rx,nxt+1⟩:=by
 have e3:allOk sz (List.map f l)=true:=EO.allOk l
 have h5':0 < sz:=h3 ▸ h5
 have hemp:=map_emp (f:=f) he
 simp [appendE,hx,hemp,h3,e3,h4,h5',appSl,newRow,hb.1,hb.2,newOb]
theorem app_more {x:VS.D} {rx:List Nat} {v l:List α} (EO:EncOK sz f) (hx:elemsD gO x=Option.some (l.map f,sz,rx)) (he:l.isEmpty=false) (h1:gO o=Option.some ⟨v.map f,sz,false⟩) (h3:te.size=sz) (h4:zeroOk te=true) (h5:0 < te.size)
  (hb:(v.length+l.length) * te.bytes≤big∧v.length+l.length≤big) :
  appendE te gO nxt (.lsl o 0 v.length sz none) x=Option.some ⟨.lsl nxt 0 (v++l).length sz none,[(o,none),(nxt,Option.some ⟨(v++l).map f,sz,false⟩)],o::rx,nxt+1⟩:=by
 have e3:allOk sz (List.map f l)=true:=EO.allOk l
 have e5:allOk sz (List.map f v)=true:=EO.allOk v
 have h5':0 < sz:=h3 ▸ h5
 have hemp:=map_emp (f:=f) he
 have hpos:=emp_pos he
 have e4:List.take v.length (List.map f v)=List.map f v:=by rw [List.take_of_length_le]; simp
 have e6:¬ v.length+l.length≤v.length:=by omega
 simp [appendE,hx,hemp,h3,e3,h4,h5',h1,appLsl,hb.1,hb.2,e4,e5,e6]
theorem app_newD {els0:List VS.D} {sz0:Nat} {cap0:Option Nat} (EO:EncOK sz f) (s:GS α) (he:s.l.isEmpty=false) (h3:te.size=sz) (h4:zeroOk te=true) (h5:0 < te.size) (hb:s.l.length * te.bytes≤big∧s.l.length≤big) :
  appendE te gO nxt (.sl true els0 sz0 cap0) (GS.D f sz s)=Option.some ⟨.lsl nxt 0 s.l.length sz none,[(nxt,Option.some ⟨s.l.map f,sz,false⟩)],[],nxt+1⟩:=app_new EO (elems_deep s he) he h3 h4 h5 hb
theorem app_moreD {v:List α} (EO:EncOK sz f) (s:GS α) (he:s.l.isEmpty=false) (h1:gO o=Option.some ⟨v.map f,sz,false⟩) (h3:te.size=sz) (h4:zeroOk te=true) (h5:0 < te.size) (hb:(v.length+s.l.length) * te.bytes≤big∧v.length+s.l.length≤big) :
  appendE te gO nxt (.lsl o 0 v.length sz none) (GS.D f sz s)=Option.some ⟨.lsl nxt 0 (v++s.l).length sz none,[(o,none),(nxt,Option.some ⟨(v++s.l).map f,sz,false⟩)],[o],nxt+1⟩:=app_more EO (elems_deep s he) he h1 h3 h4 h5 hb
end
end Go.VS

namespace Go.VS.F0
open Go Go.Proofs
set_option maxHeartbeats 0
set_option linter.unusedSimpArgs false
set_option linter.unusedVariables false
def cmp_isNaN (a0:Int):Bool :=
 bif (a0 != a0) then
  true
 else
  false

theorem T_cmp_isNaN (a0:Int):(lim cfg).pure 119 [I a0]=some (B (cmp_isNaN a0)):=by
 unfold cmp_isNaN
 cases h1:(a0 != a0) with
 | true =>
  have g1:=bne_true h1
  exact zu [.dec true] (Ai h1 trivial) (by kernel_rfl)
 | false =>
  have g1:=bne_false h1
  exact zu [.dec false] (Ai h1 trivial) (by kernel_rfl)

def cmp_Compare (x:Int) (y:Int):Int :=
 bif (cmp_isNaN x) then
  bif (cmp_isNaN y) then
   0
  else
   (-1)
 else
  bif (cmp_isNaN y) then
   1
  else
   bif decide (x < y) then
    (-1)
   else
    bif decide (x > y) then
     1
    else
     0

theorem T_cmp_Compare (x:Int) (y:Int):(lim cfg).pure 105 [I x,I y]=some (I (cmp_Compare x y)):=by
 unfold cmp_Compare
 cases h1:(cmp_isNaN x) with
 | true =>
  cases h2:(cmp_isNaN y) with
  | true =>
   exact zu [.pure (B (cmp_isNaN x)),.dec true,.pure (B (cmp_isNaN y)),.dec true] (Ai h2 (Ai (T_cmp_isNaN y) (Ai h1 (Ai (T_cmp_isNaN x) trivial)))) (by kernel_rfl)
  | false =>
   exact zu [.pure (B (cmp_isNaN x)),.dec true,.pure (B (cmp_isNaN y)),.dec false] (Ai h2 (Ai (T_cmp_isNaN y) (Ai h1 (Ai (T_cmp_isNaN x) trivial)))) (by kernel_rfl)
 | false =>
  cases h3:(cmp_isNaN y) with
  | true =>
   exact zu [.pure (B (cmp_isNaN x)),.dec false,.pure (B (cmp_isNaN y)),.dec true] (Ai h3 (Ai (T_cmp_isNaN y) (Ai h1 (Ai (T_cmp_isNaN x) trivial)))) (by kernel_rfl)
  | false =>
   cases h4:decide (x < y) with
   | true =>
    have g4:=of_decide_eq_true h4
    exact zu [.pure (B (cmp_isNaN x)),.dec false,.pure (B (cmp_isNaN y)),.dec false,.dec true] (Ai h4 (Ai h3 (Ai (T_cmp_isNaN y) (Ai h1 (Ai (T_cmp_isNaN x) trivial))))) (by kernel_rfl)
   | false =>
    have g4:=of_decide_eq_false h4
    cases h5:decide (x > y) with
    | true =>
     have g5:=of_decide_eq_true h5
     exact zu [.pure (B (cmp_isNaN x)),.dec false,.pure (B (cmp_isNaN y)),.dec false,.dec false,.dec true] (Ai h5 (Ai h4 (Ai h3 (Ai (T_cmp_isNaN y) (Ai h1 (Ai (T_cmp_isNaN x) trivial)))))) (by kernel_rfl)
    | false =>
     have g5:=of_decide_eq_false h5
     exact zu [.pure (B (cmp_isNaN x)),.dec false,.pure (B (cmp_isNaN y)),.dec false,.dec false,.dec false] (Ai h5 (Ai h4 (Ai h3 (Ai (T_cmp_isNaN y) (Ai h1 (Ai (T_cmp_isNaN x) trivial)))))) (by kernel_rfl)

def ranges_gathered_1 (x:Sn) (y:Sn):Int :=
 (cmp_Compare x.lo y.lo)

theorem T_ranges_gathered_1 (x:Sn) (y:Sn):(lim cfg).pure 104 [Sn.D x,Sn.D y]=some (I (ranges_gathered_1 x y)):=by
 unfold ranges_gathered_1
 exact zu [.pure (I (cmp_Compare x.lo y.lo))] (Ai (T_cmp_Compare x.lo y.lo) trivial) (by kernel_rfl)
end Go.VS.F0

