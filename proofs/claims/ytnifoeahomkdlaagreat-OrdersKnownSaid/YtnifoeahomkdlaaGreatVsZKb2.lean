/- Nothing of a statement is proved in this text alone: it is part 2 of the proof's own tools, an evaluator of the code over deep values, its soundness, and what it makes of this seat's functions. Conditions: none beyond the statement's own. -/
import Derived.Test.YtnifoeahomkdlaaGreatVsZKb1
import Derived.KernelRfl
import Derived.Test.YtnifoeahomkdlaaGreatProg
set_option linter.unusedSimpArgs false
set_option linter.unusedVariables false
/-
  VS, part N: the evaluator without fuel. (A text of this claim's own; nothing of it is trusted.)
-/
namespace Go.VS
open Go

structure Le (S S' : Sm) : Prop where
  pure : ∀ K args d, S.pure K args = some d → S'.pure K args = some d
  inl : ∀ K args objs nxt r, S.inl K args objs nxt = some r → S'.inl K args objs nxt = some r
  loop : ∀ f c st r, S.loop f c st = some r → S'.loop f c st = some r
  loopY : ∀ R f c st r, S.loopY R f c st = some r → S'.loopY R f c st = some r
  iter : ∀ R K args objs nxt r, S.iter R K args objs nxt = some r → S'.iter R K args objs nxt = some r
theorem Le.refl (S : Sm) : Le S S := ⟨fun _ _ _ h => h, fun _ _ _ _ _ h => h, fun _ _ _ _ h => h, fun _ _ _ _ _ h => h, fun _ _ _ _ _ _ h => h⟩
theorem Le.trans {a b c : Sm} (h : Le a b) (k : Le b c) : Le a c := ⟨fun _ _ _ x => k.pure _ _ _ (h.pure _ _ _ x), fun _ _ _ _ _ x => k.inl _ _ _ _ _ (h.inl _ _ _ _ _ x), fun _ _ _ _ x => k.loop _ _ _ _ (h.loop _ _ _ _ x),
  fun _ _ _ _ _ x => k.loopY _ _ _ _ _ (h.loopY _ _ _ _ _ x), fun _ _ _ _ _ _ x => k.iter _ _ _ _ _ _ (h.iter _ _ _ _ _ _ x)⟩

section
variable {C : Cfg} {S S' : Sm}
theorem callD_mono (h : Le S S') {gT : Nat → D} {objs : List (Nat × Ob)} {nxt : Nat} {c : Call} {r : Out} (hr : callD C S gT objs nxt c = some r) : callD C S' gT objs nxt c = some r := by
  unfold callD at hr ⊢
  split at hr
  · rename_i b hb; exact hr
  · rename_i f hf
    try simp only [hf]
    split at hr
    · rename_i g first captured hg
      try simp only [hg]
      split at hr
      · try simp only []
        unfold zw at hr ⊢
        split at hr
        · rename_i fn hfn
          try simp only [hfn]
          split at hr
          · rename_i hi
            try simp only [if_pos hi]
            unfold zU at hr ⊢
            split at hr
            · rename_i l hl
              try simp only [hl]
              split at hr
              · rename_i ids hids
                try simp only [hids]
                cases hb : allBelow nxt ids with
                | false => rw [hb] at hr; cases hr
                | true =>
                  rw [hb] at hr
                  simp only [cond_true] at hr ⊢
                  split at hr
                  · rename_i d objs' nxt' hinl
                    rw [h.inl _ _ _ _ _ hinl]; exact hr
                  · cases hr
              · cases hr
            · cases hr
          · rename_i hi
            try simp only [if_neg hi]
            unfold zl at hr ⊢
            split at hr
            · rename_i args' ids hs
              try simp only [hs]
              split at hr
              · rename_i d hd
                rw [h.pure _ _ _ hd]; exact hr
              · cases hr
            · cases hr
        · cases hr
      · cases hr
    · cases hr
  · cases hr
theorem evOp_mono (h : Le S S') {gT : Nat → D} {objs : List (Nat × Ob)} {nxt : Nat} {o : Oper} {r : Out} (hr : evOp C S gT objs nxt o = some r) : evOp C S' gT objs nxt o = some r := by
  unfold evOp at hr ⊢
  split at hr
  all_goals first | exact hr | (cases hr; done) | exact callD_mono h hr
theorem evOps_mono (h : Le S S') {ops : Array Oper} : ∀ (l : List Oper) (st st' : St), evOps C S ops l st = some st' → evOps C S' ops l st = some st'
  | [], _, _, hr => hr
  | o :: l, st, st', hr => by
    simp only [evOps] at hr ⊢
    split at hr
    · rename_i hw
      try simp only [hw]
      split at hr
      · rename_i r hop
        rw [evOp_mono h hop]
        exact evOps_mono h l _ _ hr
      · cases hr
    · rename_i hw
      try simp only [hw]
      exact evOps_mono h l _ _ hr
    · cases hr
theorem evOpsT_mono (h : Le S S') {ops : Array Oper} : ∀ (l : List Oper) (st : St) (r : St × Trace), evOpsT C S ops l st = some r → evOpsT C S' ops l st = some r
  | [], _, _, hr => hr
  | o :: l, st, r, hr => by
    simp only [evOpsT] at hr ⊢
    split at hr
    · rename_i hw
      try simp only [hw]
      split at hr
      · rename_i r1 hop
        rw [evOp_mono h hop]
        try simp only []
        split at hr
        · rename_i h1
          rw [evOpsT_mono h l _ _ h1]; exact hr
        · cases hr
      · cases hr
    · rename_i hw
      try simp only [hw]
      split at hr
      · rename_i h1
        rw [evOpsT_mono h l _ _ h1]; exact hr
      · cases hr
    · cases hr
theorem evCode_mono (h : Le S S') {f : FuncId} : ∀ (c : Code) (st : St) (r : Exit × St), zK C S f c st = some r → zK C S' f c st = some r := by
  intro c
  induction c with
  | region id ops draw =>
    intro st r hr
    simp only [zK] at hr ⊢
    split at hr
    · rename_i hd
      try rw [if_pos hd]
      split at hr
      · rename_i h1
        rw [evOpsT_mono h _ _ _ h1]; exact hr
      · cases hr
    · rename_i hd
      try rw [if_neg hd]
      split at hr
      · rename_i h1
        rw [evOps_mono h _ _ _ h1]; exact hr
      · cases hr
  | seq x y ihx ihy =>
    intro st r hr
    simp only [zK] at hr ⊢
    split at hr
    · rename_i st1 h1
      rw [ihx _ _ h1]; exact ihy _ _ hr
    · rename_i hn
      have := ihx _ _ hr
      rw [this]
      split
      · rename_i st1 h1
        cases h1
        exact absurd hr (hn _)
      · rfl
  | cond c x y ihx ihy =>
    intro st r hr
    simp only [zK] at hr ⊢
    split at hr
    · rename_i t ht
      try rw [ht]
      try simp only []
      split at hr
      · rename_i h1; rw [if_pos h1]; exact ihx _ _ hr
      · rename_i h1; rw [if_neg h1]; exact ihy _ _ hr
    · cases hr
  | block id x ih =>
    intro st r hr
    simp only [zK] at hr ⊢
    split at hr
    · rename_i id' st1 h1
      rw [ih _ _ h1]; exact hr
    · rename_i hn
      have := ih _ _ hr
      rw [this]
      split
      · rename_i id' st1 h1
        cases h1
        exact absurd hr (hn _ _)
      · rfl
  | loop x ih =>
    intro st r hr
    simp only [zK] at hr ⊢
    split at hr
    · rename_i st1 h1
      exact h.loop _ _ _ _ hr
    · cases hr
  | scope x ih =>
    intro st r hr
    simp only [zK] at hr ⊢
    split at hr
    · cases hr
    · rename_i hn
      have := ih _ _ hr
      rw [this]
      split
      · rename_i l st1 h1
        cases h1
        exact absurd hr (hn _ _)
      · rfl
  | rangeFunc g ps x y _ _ =>
    intro st r hr
    simp only [zK] at hr ⊢
    split at hr
    · rename_i hnr
      rw [if_pos hnr]
      split at hr
      · rename_i K first captured hg
        try simp only [hg]
        split at hr
        · rename_i fn hfn
          try simp only [hfn]
          split at hr
          · rename_i objs' nxt' p hit
            rw [h.iter _ _ _ _ _ _ hit]; exact hr
          · cases hr
        · cases hr
      · cases hr
    · cases hr
  | _ => intro st r hr; simp only [zK] at hr ⊢; exact hr
theorem evRound_mono (h : Le S S') {R : Rnd} {args : List D} {objs : List (Nat × Ob)} {nxt : Nat} {r : Exit × St} (hr : evRound C S R args objs nxt = some r) : evRound C S' R args objs nxt = some r := by
  unfold evRound at hr ⊢
  split at hr
  · rename_i hl
    rw [if_pos hl]
    split at hr
    · rename_i st1 h1
      rw [evCode_mono h _ _ _ h1]; exact evCode_mono h _ _ _ hr
    · cases hr
  · cases hr
theorem evOpsY_mono (h : Le S S') {R : Rnd} {ops : Array Oper} : ∀ (l : List Oper) (st : St) (r : St × Option Code), evOpsY C S R ops l st = some r → evOpsY C S' R ops l st = some r
  | [], _, _, hr => hr
  | o :: l, st, r, hr => by
    simp only [evOpsY] at hr ⊢
    split at hr
    · rename_i hw
      try simp only [hw]
      split at hr
      · rename_i args hy
        try simp only [hy]
        split at hr
        · rename_i s1 h1
          rw [evRound_mono h h1]; exact evOpsY_mono h l _ _ hr
        · rename_i s1 h1
          rw [evRound_mono h h1]
          try simp only []
          split at hr
          · rename_i s2 h2
            rw [evOps_mono h _ _ _ h2]; exact hr
          · cases hr
        · rename_i id s1 h1
          rw [evRound_mono h h1]
          try simp only []
          split at hr
          · rename_i s2 h2
            rw [evOps_mono h _ _ _ h2]; exact hr
          · cases hr
        · cases hr
      · rename_i hy
        try simp only [hy]
        split at hr
        · rename_i r1 hop
          rw [evOp_mono h hop]; exact evOpsY_mono h l _ _ hr
        · cases hr
    · rename_i hw
      try simp only [hw]
      exact evOpsY_mono h l _ _ hr
    · cases hr
theorem withP_some {p : Option Code} {r : Option (Exit × St)} {q : Exit × St × Option Code} (h : withP p r = some q) : ∃ e st, r = some (e, st) ∧ q = (e, st, p) := by
  unfold withP at h
  split at h
  · cases h; exact ⟨_, _, rfl, rfl⟩
  · cases h
theorem evCodeY_mono (h : Le S S') {R : Rnd} {f : FuncId} : ∀ (c : Code) (st : St) (r : Exit × St × Option Code), zY C S R f c st = some r → zY C S' R f c st = some r := by
  intro c
  induction c with
  | region id ops draw =>
    intro st r hr
    simp only [zY] at hr ⊢
    split at hr
    · rename_i hd
      rw [if_pos hd]
      obtain ⟨e, st1, h1, rfl⟩ := withP_some hr
      rw [evCode_mono h _ _ _ h1]; rfl
    · rename_i hd
      rw [if_neg hd]
      split at hr
      · rename_i h1
        rw [evOpsY_mono h _ _ _ h1]; exact hr
      · cases hr
  | seq x y ihx ihy =>
    intro st r hr
    simp only [zY] at hr ⊢
    split at hr
    · rename_i st1 h1
      rw [ihx _ _ h1]; exact ihy _ _ hr
    · rename_i st1 p1 h1
      rw [ihx _ _ h1]
      obtain ⟨e, st2, h2, rfl⟩ := withP_some hr
      simp only [evCode_mono h _ _ _ h2]; rfl
    · rename_i hn1 hn2
      have := ihx _ _ hr
      rw [this]
      split
      · rename_i st1 h1
        cases h1
        exact absurd hr (hn1 _)
      · rename_i st1 p1 h1
        cases h1
        exact absurd hr (hn2 _ _)
      · rfl
  | cond c x y ihx ihy =>
    intro st r hr
    simp only [zY] at hr ⊢
    split at hr
    · rename_i t ht
      try rw [ht]
      try simp only []
      split at hr
      · rename_i h1; rw [if_pos h1]; exact ihx _ _ hr
      · rename_i h1; rw [if_neg h1]; exact ihy _ _ hr
    · cases hr
  | block id x ih =>
    intro st r hr
    simp only [zY] at hr ⊢
    split at hr
    · rename_i id' st1 p1 h1
      rw [ih _ _ h1]; exact hr
    · rename_i hn
      have := ih _ _ hr
      rw [this]
      split
      · rename_i id' st1 p1 h1
        cases h1
        exact absurd hr (hn _ _ _)
      · rfl
  | loop x ih =>
    intro st r hr
    simp only [zY] at hr ⊢
    split at hr
    · rename_i st1 h1
      exact h.loopY _ _ _ _ _ hr
    · cases hr
  | scope x ih =>
    intro st r hr
    simp only [zY] at hr ⊢
    split at hr
    · cases hr
    · rename_i hn
      have := ih _ _ hr
      rw [this]
      split
      · rename_i l st1 p1 h1
        cases h1
        exact absurd hr (hn _ _ _)
      · rfl
  | _ => intro st r hr; simp only [zY] at hr ⊢; exact hr
theorem runLoopY_mono (h : Le S S') {R : Rnd} {f : FuncId} {c : Code} {st : St} {r : Exit × St × Option Code} (hr : runLoopY C S R f c st = some r) : runLoopY C S' R f c st = some r := by
  unfold runLoopY at hr ⊢
  split at hr
  · rename_i st1 h1
    rw [evCodeY_mono h _ _ _ h1]
    try simp only []
    split at hr
    · exact h.loopY _ _ _ _ _ hr
    · cases hr
  · rename_i st1 p1 h1
    rw [evCodeY_mono h _ _ _ h1]
    try simp only []
    split at hr
    · rename_i st2 h2
      obtain ⟨e, st3, h3, rfl⟩ := withP_some hr
      simp only [h.loop _ _ _ _ h3]; rfl
    · cases hr
  · rename_i hn1 hn2
    have := evCodeY_mono h _ _ _ hr
    rw [this]
    split
    · rename_i st1 h1
      cases h1
      exact absurd hr (hn1 _)
    · rename_i st1 p1 h1
      cases h1
      exact absurd hr (hn2 _ _)
    · rfl
theorem runIter_mono (h : Le S S') {R : Rnd} {K : FuncId} {args : List D} {objs : List (Nat × Ob)} {nxt : Nat} {r : List (Nat × Ob) × Nat × Option Code} (hr : runIter C S R K args objs nxt = some r) : runIter C S' R K args objs nxt = some r := by
  unfold runIter at hr ⊢
  split at hr
  · rename_i fn hfn
    split at hr
    · rename_i c hc
      split at hr
      · rename_i st' p' hev; rw [evCodeY_mono h _ _ _ hev]; exact hr
      · rename_i st' p' hev; rw [evCodeY_mono h _ _ _ hev]; exact hr
      · cases hr
    · cases hr
  · cases hr
theorem runFn_mono (h : Le S S') {K : FuncId} {args : List D} {objs : List (Nat × Ob)} {nxt : Nat} {r : D × List (Nat × Ob) × Nat} (hr : runFn C S K args objs nxt = some r) : runFn C S' K args objs nxt = some r := by
  unfold runFn at hr ⊢
  split at hr
  · rename_i fn hfn
    split at hr
    · rename_i c hc
      split at hr
      · rename_i st' hev; rw [evCode_mono h _ _ _ hev]; exact hr
      · rename_i st' hev; rw [evCode_mono h _ _ _ hev]; exact hr
      · cases hr
    · cases hr
  · cases hr
theorem runPure_mono (h : Le S S') {K : FuncId} {args : List D} {d : D} (hr : runPure C S K args = some d) : runPure C S' K args = some d := by
  unfold runPure at hr ⊢
  split at hr
  · exact hr
  · split at hr
    · rename_i d0 objs n hrun
      rw [runFn_mono h hrun]; exact hr
    · cases hr
theorem runInl_mono (h : Le S S') {K : FuncId} {args : List D} {objs : List (Nat × Ob)} {nxt : Nat} {r : D × List (Nat × Ob) × Nat} (hr : runInl C S K args objs nxt = some r) : runInl C S' K args objs nxt = some r := by
  unfold runInl at hr ⊢
  split at hr
  · exact hr
  · exact runFn_mono h hr
theorem runLoop_mono (h : Le S S') {f : FuncId} {c : Code} {st : St} {r : Exit × St} (hr : runLoop C S f c st = some r) : runLoop C S' f c st = some r := by
  unfold runLoop at hr ⊢
  split at hr
  · rename_i st1 h1
    rw [evCode_mono h _ _ _ h1]
    try simp only []
    split at hr
    · exact h.loop _ _ _ _ hr
    · cases hr
  · rename_i hn
    have := evCode_mono h _ _ _ hr
    rw [this]
    split
    · rename_i st1 h1
      cases h1
      exact absurd hr (hn _)
    · rfl
theorem sem_succ : ∀ n, Le (sem C n) (sem C (n + 1))
  | 0 => ⟨fun _ _ _ h => by simp [sem] at h, fun _ _ _ _ _ h => by simp [sem] at h, fun _ _ _ _ h => by simp [sem] at h, fun _ _ _ _ _ h => by simp [sem] at h, fun _ _ _ _ _ _ h => by simp [sem] at h⟩
  | n + 1 => by
    have ih := sem_succ n
    exact ⟨fun _ _ _ h => runPure_mono ih h, fun _ _ _ _ _ h => runInl_mono ih h, fun _ _ _ _ h => runLoop_mono ih h, fun _ _ _ _ _ h => runLoopY_mono ih h, fun _ _ _ _ _ _ h => runIter_mono ih h⟩
theorem sem_le {n k : Nat} (h : n ≤ k) : Le (sem C n) (sem C k) := by
  induction h with
  | refl => exact Le.refl _
  | step _ ih => exact ih.trans (sem_succ _)

/-! ### all of its answers at once -/
open Classical in
noncomputable def anyOf {α : Type} (f : Nat → Option α) : Option α := if h : ∃ x n, f n = some x then some (Classical.choose h) else none
theorem anyOf_some {α : Type} {f : Nat → Option α} (hm : ∀ n k x, n ≤ k → f n = some x → f k = some x) {x : α} : anyOf f = some x ↔ ∃ n, f n = some x := by
  unfold anyOf
  constructor
  · intro h
    split at h
    · rename_i hx
      cases h
      exact Classical.choose_spec hx
    · cases h
  · rintro ⟨n, hn⟩
    have hx : ∃ x n, f n = some x := ⟨x, n, hn⟩
    rw [dif_pos hx]
    obtain ⟨k, hk⟩ := Classical.choose_spec hx
    have h1 := hm n (max n k) x (Nat.le_max_left _ _) hn
    have h2 := hm k (max n k) _ (Nat.le_max_right _ _) hk
    rw [h1] at h2
    exact h2.symm
noncomputable def lim (C : Cfg) : Sm := ⟨fun K args => anyOf fun n => (sem C n).pure K args, fun K args objs nxt => anyOf fun n => (sem C n).inl K args objs nxt, fun f c st => anyOf fun n => (sem C n).loop f c st, fun R f c st => anyOf fun n => (sem C n).loopY R f c st, fun R K args objs nxt => anyOf fun n => (sem C n).iter R K args objs nxt⟩
theorem lim_pure {K : FuncId} {args : List D} {d : D} : (lim C).pure K args = some d ↔ ∃ n, (sem C n).pure K args = some d := anyOf_some fun _ _ _ h hx => (sem_le h).pure _ _ _ hx
theorem lim_inl {K : FuncId} {args : List D} {objs : List (Nat × Ob)} {nxt : Nat} {r : D × List (Nat × Ob) × Nat} : (lim C).inl K args objs nxt = some r ↔ ∃ n, (sem C n).inl K args objs nxt = some r := anyOf_some fun _ _ _ h hx => (sem_le h).inl _ _ _ _ _ hx
theorem lim_loop {f : FuncId} {c : Code} {st : St} {r : Exit × St} : (lim C).loop f c st = some r ↔ ∃ n, (sem C n).loop f c st = some r := anyOf_some fun _ _ _ h hx => (sem_le h).loop _ _ _ _ hx

theorem lim_loopY {R : Rnd} {f : FuncId} {c : Code} {st : St} {r : Exit × St × Option Code} : (lim C).loopY R f c st = some r ↔ ∃ n, (sem C n).loopY R f c st = some r := anyOf_some fun _ _ _ h hx => (sem_le h).loopY _ _ _ _ _ hx
theorem lim_iter {R : Rnd} {K : FuncId} {args : List D} {objs : List (Nat × Ob)} {nxt : Nat} {r : List (Nat × Ob) × Nat × Option Code} : (lim C).iter R K args objs nxt = some r ↔ ∃ n, (sem C n).iter R K args objs nxt = some r := anyOf_some fun _ _ _ h hx => (sem_le h).iter _ _ _ _ _ _ hx

/-! ### each answer needs a part of them only -/
theorem callD_cont {gT : Nat → D} {objs : List (Nat × Ob)} {nxt : Nat} {c : Call} {r : Out} (hr : callD C (lim C) gT objs nxt c = some r) : ∃ n, callD C (sem C n) gT objs nxt c = some r := by
  unfold callD at hr ⊢
  split at hr
  · rename_i b hb; exact ⟨0, hr⟩
  · rename_i f hf
    try simp only [hf]
    split at hr
    · rename_i g first captured hg
      try simp only [hg]
      split at hr
      · try simp only []
        unfold zw at hr ⊢
        split at hr
        · rename_i fn hfn
          try simp only [hfn]
          split at hr
          · rename_i hi
            try simp only [if_pos hi]
            unfold zU at hr ⊢
            split at hr
            · rename_i l hl
              try simp only [hl]
              split at hr
              · rename_i ids hids
                try simp only [hids]
                cases hb : allBelow nxt ids with
                | false => rw [hb] at hr; cases hr
                | true =>
                  rw [hb] at hr
                  simp only [cond_true] at hr ⊢
                  split at hr
                  · rename_i d objs' nxt' hinl
                    obtain ⟨n, hn⟩ := lim_inl.1 hinl
                    exact ⟨n, by rw [hn]; exact hr⟩
                  · cases hr
              · cases hr
            · cases hr
          · rename_i hi
            try simp only [if_neg hi]
            unfold zl at hr ⊢
            split at hr
            · rename_i args' ids hs
              try simp only [hs]
              split at hr
              · rename_i d hd
                obtain ⟨n, hn⟩ := lim_pure.1 hd
                exact ⟨n, by rw [hn]; exact hr⟩
              · cases hr
            · cases hr
        · cases hr
      · cases hr
    · cases hr
  · cases hr
theorem evOp_cont {gT : Nat → D} {objs : List (Nat × Ob)} {nxt : Nat} {o : Oper} {r : Out} (hr : evOp C (lim C) gT objs nxt o = some r) : ∃ n, evOp C (sem C n) gT objs nxt o = some r := by
  unfold evOp at hr ⊢
  split at hr
  all_goals first | exact callD_cont hr | exact ⟨0, hr⟩
theorem evOps_cont {ops : Array Oper} : ∀ (l : List Oper) (st st' : St), evOps C (lim C) ops l st = some st' → ∃ n, evOps C (sem C n) ops l st = some st'
  | [], _, _, hr => ⟨0, hr⟩
  | o :: l, st, st', hr => by
    simp only [evOps] at hr ⊢
    split at hr
    · rename_i hw
      try simp only [hw]
      split at hr
      · rename_i r hop
        obtain ⟨n, hn⟩ := evOp_cont hop
        obtain ⟨k, hk⟩ := evOps_cont l _ _ hr
        refine ⟨max n k, ?_⟩
        rw [evOp_mono (sem_le (Nat.le_max_left n k)) hn]
        exact evOps_mono (sem_le (Nat.le_max_right n k)) _ _ _ hk
      · cases hr
    · rename_i hw
      try simp only [hw]
      exact evOps_cont l _ _ hr
    · cases hr
theorem evOpsT_cont {ops : Array Oper} : ∀ (l : List Oper) (st : St) (r : St × Trace), evOpsT C (lim C) ops l st = some r → ∃ n, evOpsT C (sem C n) ops l st = some r
  | [], _, _, hr => ⟨0, hr⟩
  | o :: l, st, r, hr => by
    simp only [evOpsT] at hr ⊢
    split at hr
    · rename_i hw
      try simp only [hw]
      split at hr
      · rename_i r1 hop
        split at hr
        · rename_i h1
          obtain ⟨n, hn⟩ := evOp_cont hop
          obtain ⟨k, hk⟩ := evOpsT_cont l _ _ h1
          refine ⟨max n k, ?_⟩
          rw [evOp_mono (sem_le (Nat.le_max_left n k)) hn]
          try simp only []
          rw [evOpsT_mono (sem_le (Nat.le_max_right n k)) _ _ _ hk]
          exact hr
        · cases hr
      · cases hr
    · rename_i hw
      try simp only [hw]
      split at hr
      · rename_i h1
        obtain ⟨k, hk⟩ := evOpsT_cont l _ _ h1
        exact ⟨k, by rw [hk]; exact hr⟩
      · cases hr
    · cases hr
theorem evCode_cont {f : FuncId} : ∀ (c : Code) (st : St) (r : Exit × St), zK C (lim C) f c st = some r → ∃ n, zK C (sem C n) f c st = some r := by
  intro c
  induction c with
  | region id ops draw =>
    intro st r hr
    simp only [zK] at hr ⊢
    split at hr
    · rename_i hd
      try simp only [if_pos hd]
      split at hr
      · rename_i h1
        obtain ⟨n, hn⟩ := evOpsT_cont _ _ _ h1
        exact ⟨n, by rw [hn]; exact hr⟩
      · cases hr
    · rename_i hd
      try simp only [if_neg hd]
      split at hr
      · rename_i h1
        obtain ⟨n, hn⟩ := evOps_cont _ _ _ h1
        exact ⟨n, by rw [hn]; exact hr⟩
      · cases hr
  | seq x y ihx ihy =>
    intro st r hr
    simp only [zK] at hr ⊢
    split at hr
    · rename_i st1 h1
      obtain ⟨n, hn⟩ := ihx _ _ h1
      obtain ⟨k, hk⟩ := ihy _ _ hr
      refine ⟨max n k, ?_⟩
      rw [evCode_mono (sem_le (Nat.le_max_left n k)) _ _ _ hn]
      exact evCode_mono (sem_le (Nat.le_max_right n k)) _ _ _ hk
    · rename_i hn
      obtain ⟨n, h1⟩ := ihx _ _ hr
      refine ⟨n, ?_⟩
      rw [h1]
      split
      · rename_i st1 h2
        cases h2
        exact absurd hr (hn _)
      · rfl
  | cond c x y ihx ihy =>
    intro st r hr
    simp only [zK] at hr ⊢
    split at hr
    · rename_i t ht
      try simp only [ht]
      split at hr
      · rename_i h1; simp only [if_pos h1]; exact ihx _ _ hr
      · rename_i h1; simp only [if_neg h1]; exact ihy _ _ hr
    · cases hr
  | block id x ih =>
    intro st r hr
    simp only [zK] at hr ⊢
    split at hr
    · rename_i id' st1 h1
      obtain ⟨n, hn⟩ := ih _ _ h1
      exact ⟨n, by rw [hn]; exact hr⟩
    · rename_i hn
      obtain ⟨n, h1⟩ := ih _ _ hr
      refine ⟨n, ?_⟩
      rw [h1]
      split
      · rename_i id' st1 h2
        cases h2
        exact absurd hr (hn _ _)
      · rfl
  | loop x ih =>
    intro st r hr
    simp only [zK] at hr ⊢
    split at hr
    · rename_i st1 h1
      exact lim_loop.1 hr
    · cases hr
  | scope x ih =>
    intro st r hr
    simp only [zK] at hr ⊢
    split at hr
    · cases hr
    · rename_i hn
      obtain ⟨n, h1⟩ := ih _ _ hr
      refine ⟨n, ?_⟩
      rw [h1]
      split
      · rename_i l st1 h2
        cases h2
        exact absurd hr (hn _ _)
      · rfl
  | rangeFunc g ps x y _ _ =>
    intro st r hr
    simp only [zK] at hr ⊢
    split at hr
    · rename_i hnr
      simp only [if_pos hnr]
      split at hr
      · rename_i K first captured hg
        try simp only [hg]
        split at hr
        · rename_i fn hfn
          try simp only [hfn]
          split at hr
          · rename_i objs' nxt' p hit
            obtain ⟨n, hn⟩ := lim_iter.1 hit
            exact ⟨n, by rw [hn]; exact hr⟩
          · cases hr
        · cases hr
      · cases hr
    · cases hr
  | _ => intro st r hr; exact ⟨0, by simp only [zK] at hr ⊢; exact hr⟩
theorem evRound_cont {R : Rnd} {args : List D} {objs : List (Nat × Ob)} {nxt : Nat} {r : Exit × St} (hr : evRound C (lim C) R args objs nxt = some r) : ∃ n, evRound C (sem C n) R args objs nxt = some r := by
  unfold evRound at hr ⊢
  split at hr
  · rename_i hl
    simp only [if_pos hl]
    split at hr
    · rename_i st1 h1
      obtain ⟨n, hn⟩ := evCode_cont _ _ _ h1
      obtain ⟨k, hk⟩ := evCode_cont _ _ _ hr
      refine ⟨max n k, ?_⟩
      rw [evCode_mono (sem_le (Nat.le_max_left n k)) _ _ _ hn]
      exact evCode_mono (sem_le (Nat.le_max_right n k)) _ _ _ hk
    · cases hr
  · cases hr
theorem evOpsY_cont {R : Rnd} {ops : Array Oper} : ∀ (l : List Oper) (st : St) (r : St × Option Code), evOpsY C (lim C) R ops l st = some r → ∃ n, evOpsY C (sem C n) R ops l st = some r
  | [], _, _, hr => ⟨0, hr⟩
  | o :: l, st, r, hr => by
    simp only [evOpsY] at hr ⊢
    split at hr
    · rename_i hw
      try simp only [hw]
      split at hr
      · rename_i args hy
        try simp only [hy]
        split at hr
        · rename_i s1 h1
          obtain ⟨n, hn⟩ := evRound_cont h1
          obtain ⟨k, hk⟩ := evOpsY_cont l _ _ hr
          refine ⟨max n k, ?_⟩
          rw [evRound_mono (sem_le (Nat.le_max_left n k)) hn]
          exact evOpsY_mono (sem_le (Nat.le_max_right n k)) _ _ _ hk
        · rename_i s1 h1
          obtain ⟨n, hn⟩ := evRound_cont h1
          split at hr
          · rename_i s2 h2
            obtain ⟨k, hk⟩ := evOps_cont _ _ _ h2
            refine ⟨max n k, ?_⟩
            rw [evRound_mono (sem_le (Nat.le_max_left n k)) hn]
            try simp only []
            rw [evOps_mono (sem_le (Nat.le_max_right n k)) _ _ _ hk]; exact hr
          · cases hr
        · rename_i id s1 h1
          obtain ⟨n, hn⟩ := evRound_cont h1
          split at hr
          · rename_i s2 h2
            obtain ⟨k, hk⟩ := evOps_cont _ _ _ h2
            refine ⟨max n k, ?_⟩
            rw [evRound_mono (sem_le (Nat.le_max_left n k)) hn]
            try simp only []
            rw [evOps_mono (sem_le (Nat.le_max_right n k)) _ _ _ hk]; exact hr
          · cases hr
        · cases hr
      · rename_i hy
        try simp only [hy]
        split at hr
        · rename_i r1 hop
          obtain ⟨n, hn⟩ := evOp_cont hop
          obtain ⟨k, hk⟩ := evOpsY_cont l _ _ hr
          refine ⟨max n k, ?_⟩
          rw [evOp_mono (sem_le (Nat.le_max_left n k)) hn]
          exact evOpsY_mono (sem_le (Nat.le_max_right n k)) _ _ _ hk
        · cases hr
    · rename_i hw
      try simp only [hw]
      exact evOpsY_cont l _ _ hr
    · cases hr
theorem evCodeY_cont {R : Rnd} {f : FuncId} : ∀ (c : Code) (st : St) (r : Exit × St × Option Code), zY C (lim C) R f c st = some r → ∃ n, zY C (sem C n) R f c st = some r := by
  intro c
  induction c with
  | region id ops draw =>
    intro st r hr
    simp only [zY] at hr ⊢
    split at hr
    · rename_i hd
      simp only [if_pos hd]
      obtain ⟨e, st1, h1, rfl⟩ := withP_some hr
      obtain ⟨n, hn⟩ := evCode_cont _ _ _ h1
      exact ⟨n, by rw [hn]; rfl⟩
    · rename_i hd
      simp only [if_neg hd]
      split at hr
      · rename_i h1
        obtain ⟨n, hn⟩ := evOpsY_cont _ _ _ h1
        exact ⟨n, by rw [hn]; exact hr⟩
      · cases hr
  | seq x y ihx ihy =>
    intro st r hr
    simp only [zY] at hr ⊢
    split at hr
    · rename_i st1 h1
      obtain ⟨n, hn⟩ := ihx _ _ h1
      obtain ⟨k, hk⟩ := ihy _ _ hr
      refine ⟨max n k, ?_⟩
      rw [evCodeY_mono (sem_le (Nat.le_max_left n k)) _ _ _ hn]
      exact evCodeY_mono (sem_le (Nat.le_max_right n k)) _ _ _ hk
    · rename_i st1 p1 h1
      obtain ⟨n, hn⟩ := ihx _ _ h1
      obtain ⟨e, st2, h2, rfl⟩ := withP_some hr
      obtain ⟨k, hk⟩ := evCode_cont _ _ _ h2
      refine ⟨max n k, ?_⟩
      rw [evCodeY_mono (sem_le (Nat.le_max_left n k)) _ _ _ hn]
      simp only [evCode_mono (sem_le (Nat.le_max_right n k)) _ _ _ hk]; rfl
    · rename_i hn1 hn2
      obtain ⟨n, h1⟩ := ihx _ _ hr
      refine ⟨n, ?_⟩
      rw [h1]
      split
      · rename_i st1 h2
        cases h2
        exact absurd hr (hn1 _)
      · rename_i st1 p1 h2
        cases h2
        exact absurd hr (hn2 _ _)
      · rfl
  | cond c x y ihx ihy =>
    intro st r hr
    simp only [zY] at hr ⊢
    split at hr
    · rename_i t ht
      try simp only [ht]
      split at hr
      · rename_i h1; simp only [if_pos h1]; exact ihx _ _ hr
      · rename_i h1; simp only [if_neg h1]; exact ihy _ _ hr
    · cases hr
  | block id x ih =>
    intro st r hr
    simp only [zY] at hr ⊢
    split at hr
    · rename_i id' st1 p1 h1
      obtain ⟨n, hn⟩ := ih _ _ h1
      exact ⟨n, by rw [hn]; exact hr⟩
    · rename_i hn
      obtain ⟨n, h1⟩ := ih _ _ hr
      refine ⟨n, ?_⟩
      rw [h1]
      split
      · rename_i id' st1 p1 h2
        cases h2
        exact absurd hr (hn _ _ _)
      · rfl
  | loop x ih =>
    intro st r hr
    simp only [zY] at hr ⊢
    split at hr
    · rename_i st1 h1
      exact lim_loopY.1 hr
    · cases hr
  | scope x ih =>
    intro st r hr
    simp only [zY] at hr ⊢
    split at hr
    · cases hr
    · rename_i hn
      obtain ⟨n, h1⟩ := ih _ _ hr
      refine ⟨n, ?_⟩
      rw [h1]
      split
      · rename_i l st1 p1 h2
        cases h2
        exact absurd hr (hn _ _ _)
      · rfl
  | _ => intro st r hr; exact ⟨0, by simp only [zY] at hr ⊢; exact hr⟩
theorem runIter_cont {R : Rnd} {K : FuncId} {args : List D} {objs : List (Nat × Ob)} {nxt : Nat} {r : List (Nat × Ob) × Nat × Option Code} (hr : runIter C (lim C) R K args objs nxt = some r) : ∃ n, runIter C (sem C n) R K args objs nxt = some r := by
  unfold runIter at hr ⊢
  split at hr
  · rename_i fn hfn
    split at hr
    · rename_i c hc
      split at hr
      · rename_i st' p' hev; obtain ⟨n, hn⟩ := evCodeY_cont _ _ _ hev; exact ⟨n, by rw [hn]; exact hr⟩
      · rename_i st' p' hev; obtain ⟨n, hn⟩ := evCodeY_cont _ _ _ hev; exact ⟨n, by rw [hn]; exact hr⟩
      · cases hr
    · cases hr
  · cases hr
theorem runFn_cont {K : FuncId} {args : List D} {objs : List (Nat × Ob)} {nxt : Nat} {r : D × List (Nat × Ob) × Nat} (hr : runFn C (lim C) K args objs nxt = some r) : ∃ n, runFn C (sem C n) K args objs nxt = some r := by
  unfold runFn at hr ⊢
  split at hr
  · rename_i fn hfn
    split at hr
    · rename_i c hc
      split at hr
      · rename_i st' hev; obtain ⟨n, hn⟩ := evCode_cont _ _ _ hev; exact ⟨n, by rw [hn]; exact hr⟩
      · rename_i st' hev; obtain ⟨n, hn⟩ := evCode_cont _ _ _ hev; exact ⟨n, by rw [hn]; exact hr⟩
      · cases hr
    · cases hr
  · cases hr
/-- What a function comes to, said of all answers at once. -/
theorem pure_of {K : FuncId} {args : List D} {d : D} (hr : runPure C (lim C) K args = some d) : (lim C).pure K args = some d := by
  refine lim_pure.2 ?_
  unfold runPure at hr
  split at hr
  · rename_i g hg
    exact ⟨1, by simp only [sem, runPure, hg]; exact hr⟩
  · rename_i hg
    split at hr
    · rename_i d0 objs n hrun
      obtain ⟨n, hn⟩ := runFn_cont hrun
      exact ⟨n + 1, by simp only [sem, runPure, hg, hn]; exact hr⟩
    · cases hr
theorem inl_of {K : FuncId} {args : List D} {objs : List (Nat × Ob)} {nxt : Nat} {r : D × List (Nat × Ob) × Nat} (hr : runInl C (lim C) K args objs nxt = some r) : (lim C).inl K args objs nxt = some r := by
  refine lim_inl.2 ?_
  unfold runInl at hr
  split at hr
  · rename_i g hg
    exact ⟨1, by simp only [sem, runInl, hg]; exact hr⟩
  · rename_i hg
    obtain ⟨n, hn⟩ := runFn_cont hr
    exact ⟨n + 1, by simp only [sem, runInl, hg, hn]⟩
theorem loop_of {f : FuncId} {c : Code} {st : St} {r : Exit × St} (hr : runLoop C (lim C) f c st = some r) : (lim C).loop f c st = some r := by
  refine lim_loop.2 ?_
  unfold runLoop at hr
  split at hr
  · rename_i st1 h1
    split at hr
    · rename_i st2 h2
      obtain ⟨n, hn⟩ := evCode_cont _ _ _ h1
      obtain ⟨k, hk⟩ := lim_loop.1 hr
      refine ⟨max n k + 1, ?_⟩
      simp only [sem, runLoop]
      rw [evCode_mono (sem_le (Nat.le_max_left n k)) _ _ _ hn]
      simp only [h2]
      exact (sem_le (Nat.le_max_right n k)).loop _ _ _ _ hk
    · cases hr
  · rename_i hn
    obtain ⟨n, h1⟩ := evCode_cont _ _ _ hr
    refine ⟨n + 1, ?_⟩
    simp only [sem, runLoop, h1]
    split
    · rename_i st1 h2
      cases h2
      exact absurd hr (hn _)
    · rfl
theorem iter_of {R : Rnd} {K : FuncId} {args : List D} {objs : List (Nat × Ob)} {nxt : Nat} {r : List (Nat × Ob) × Nat × Option Code} (hr : runIter C (lim C) R K args objs nxt = some r) : (lim C).iter R K args objs nxt = some r := by
  obtain ⟨n, hn⟩ := runIter_cont hr
  exact lim_iter.2 ⟨n + 1, by simp only [sem]; exact hn⟩
theorem loopY_of {R : Rnd} {f : FuncId} {c : Code} {st : St} {r : Exit × St × Option Code} (hr : runLoopY C (lim C) R f c st = some r) : (lim C).loopY R f c st = some r := by
  refine lim_loopY.2 ?_
  unfold runLoopY at hr
  split at hr
  · rename_i st1 h1
    split at hr
    · rename_i st2 h2
      obtain ⟨n, hn⟩ := evCodeY_cont _ _ _ h1
      obtain ⟨k, hk⟩ := lim_loopY.1 hr
      refine ⟨max n k + 1, ?_⟩
      simp only [sem, runLoopY]
      rw [evCodeY_mono (sem_le (Nat.le_max_left n k)) _ _ _ hn]
      simp only [h2]
      exact (sem_le (Nat.le_max_right n k)).loopY _ _ _ _ _ hk
    · cases hr
  · rename_i st1 p1 h1
    split at hr
    · rename_i st2 h2
      obtain ⟨n, hn⟩ := evCodeY_cont _ _ _ h1
      obtain ⟨e, st3, h3, rfl⟩ := withP_some hr
      obtain ⟨k, hk⟩ := lim_loop.1 h3
      refine ⟨max n k + 1, ?_⟩
      simp only [sem, runLoopY]
      rw [evCodeY_mono (sem_le (Nat.le_max_left n k)) _ _ _ hn]
      simp only [h2]
      rw [(sem_le (Nat.le_max_right n k)).loop _ _ _ _ hk]; rfl
    · cases hr
  · rename_i hn1 hn2
    obtain ⟨n, h1⟩ := evCodeY_cont _ _ _ hr
    refine ⟨n + 1, ?_⟩
    simp only [sem, runLoopY, h1]
    split
    · rename_i st1 h2
      cases h2
      exact absurd hr (hn1 _)
    · rename_i st1 p1 h2
      cases h2
      exact absurd hr (hn2 _ _)
    · rfl
/-- What is said of all answers at once, the machine does. -/
theorem lim_sound (hC : CfgOK C) (hX : ExtOK C) {K : FuncId} {args : List D} {d : D} (h : (lim C).pure K args = some d) : PureOK C K args d := by
  obtain ⟨n, hn⟩ := lim_pure.1 h
  exact (sem_sound hC hX n).pure K args d hn
end
end Go.VS
namespace Go.VS
open Go Go.Proofs
noncomputable def ty3 : Ty := ⟨(.int .i64), 1, 8, (.int .i64 0)⟩
theorem ty3_ok : tyOf Tryz.prog 3 = some ty3 := by kernel_rfl
noncomputable def ty4 : Ty := ⟨.bool, 1, 1, (.bool false)⟩
theorem ty4_ok : tyOf Tryz.prog 4 = some ty4 := by kernel_rfl
noncomputable def ty5 : Ty := ⟨(.int .u8), 1, 1, (.int .u8 0)⟩
theorem ty5_ok : tyOf Tryz.prog 5 = some ty5 := by kernel_rfl
noncomputable def ty9 : Ty := ⟨.str, 1, 16, (.string ⟨#[]⟩)⟩
theorem ty9_ok : tyOf Tryz.prog 9 = some ty9 := by kernel_rfl
noncomputable def ty22 : Ty := ⟨(.slice 69), 1, 24, (.slice none 0 0)⟩
theorem ty22_ok : tyOf Tryz.prog 22 = some ty22 := by kernel_rfl
noncomputable def ty24 : Ty := ⟨(.struct [(3, 0), (3, 1)]), 2, 16, (.agg #[(.int .i64 0), (.int .i64 0)])⟩
theorem ty24_ok : tyOf Tryz.prog 24 = some ty24 := by kernel_rfl
noncomputable def ty26 : Ty := ⟨(.struct [(22, 0), (24, 1)]), 3, 40, (.agg #[(.slice none 0 0), (.int .i64 0), (.int .i64 0)])⟩
theorem ty26_ok : tyOf Tryz.prog 26 = some ty26 := by kernel_rfl
noncomputable def ty29 : Ty := ⟨(.int .i64), 1, 8, (.int .i64 0)⟩
theorem ty29_ok : tyOf Tryz.prog 29 = some ty29 := by kernel_rfl
noncomputable def ty32 : Ty := ⟨(.slice 3), 1, 24, (.slice none 0 0)⟩
theorem ty32_ok : tyOf Tryz.prog 32 = some ty32 := by kernel_rfl
noncomputable def ty35 : Ty := ⟨(.slice 66), 1, 24, (.slice none 0 0)⟩
theorem ty35_ok : tyOf Tryz.prog 35 = some ty35 := by kernel_rfl
noncomputable def ty39 : Ty := ⟨.func, 1, 8, .nilFunc⟩
theorem ty39_ok : tyOf Tryz.prog 39 = some ty39 := by kernel_rfl
noncomputable def ty63 : Ty := ⟨(.slice 35), 1, 24, (.slice none 0 0)⟩
theorem ty63_ok : tyOf Tryz.prog 63 = some ty63 := by kernel_rfl
noncomputable def ty66 : Ty := ⟨(.arr 2 3), 2, 16, (.agg #[(.int .i64 0), (.int .i64 0)])⟩
theorem ty66_ok : tyOf Tryz.prog 66 = some ty66 := by kernel_rfl
noncomputable def ty69 : Ty := ⟨(.struct [(24, 0), (3, 2), (3, 3)]), 4, 32, (.agg #[(.int .i64 0), (.int .i64 0), (.int .i64 0), (.int .i64 0)])⟩
theorem ty69_ok : tyOf Tryz.prog 69 = some ty69 := by kernel_rfl
noncomputable def ty71 : Ty := ⟨(.slice 32), 1, 24, (.slice none 0 0)⟩
theorem ty71_ok : tyOf Tryz.prog 71 = some ty71 := by kernel_rfl
noncomputable def ty75 : Ty := ⟨(.struct [(24, 0), (3, 2), (24, 3)]), 5, 40, (.agg #[(.int .i64 0), (.int .i64 0), (.int .i64 0), (.int .i64 0), (.int .i64 0)])⟩
theorem ty75_ok : tyOf Tryz.prog 75 = some ty75 := by kernel_rfl
noncomputable def ty88 : Ty := ⟨.func, 1, 8, .nilFunc⟩
theorem ty88_ok : tyOf Tryz.prog 88 = some ty88 := by kernel_rfl
noncomputable def ty90 : Ty := ⟨(.struct [(88, 0)]), 1, 8, (.agg #[.nilFunc])⟩
theorem ty90_ok : tyOf Tryz.prog 90 = some ty90 := by kernel_rfl
noncomputable def ty94 : Ty := ⟨.func, 1, 8, .nilFunc⟩
theorem ty94_ok : tyOf Tryz.prog 94 = some ty94 := by kernel_rfl
noncomputable def ty112 : Ty := ⟨.func, 1, 8, .nilFunc⟩
theorem ty112_ok : tyOf Tryz.prog 112 = some ty112 := by kernel_rfl
noncomputable def ty122 : Ty := ⟨.func, 1, 8, .nilFunc⟩
theorem ty122_ok : tyOf Tryz.prog 122 = some ty122 := by kernel_rfl
noncomputable def ty124 : Ty := ⟨.func, 1, 8, .nilFunc⟩
theorem ty124_ok : tyOf Tryz.prog 124 = some ty124 := by kernel_rfl
noncomputable def ty129 : Ty := ⟨(.int .u64), 1, 8, (.int .u64 0)⟩
theorem ty129_ok : tyOf Tryz.prog 129 = some ty129 := by kernel_rfl
noncomputable def ty132 : Ty := ⟨(.int .i64), 1, 8, (.int .i64 0)⟩
theorem ty132_ok : tyOf Tryz.prog 132 = some ty132 := by kernel_rfl
noncomputable def ty139 : Ty := ⟨(.int .u32), 1, 4, (.int .u32 0)⟩
theorem ty139_ok : tyOf Tryz.prog 139 = some ty139 := by kernel_rfl
noncomputable def ty141 : Ty := ⟨(.int .u64), 1, 8, (.int .u64 0)⟩
theorem ty141_ok : tyOf Tryz.prog 141 = some ty141 := by kernel_rfl
noncomputable def ty147 : Ty := ⟨(.int .u64), 1, 8, (.int .u64 0)⟩
theorem ty147_ok : tyOf Tryz.prog 147 = some ty147 := by kernel_rfl
noncomputable def ty151 : Ty := ⟨(.ptr 3), 1, 8, (.pointer none)⟩
theorem ty151_ok : tyOf Tryz.prog 151 = some ty151 := by kernel_rfl
noncomputable def tyTab : Tr Ty := (.node (.node (.node (.node (.node .nil 3 ty3 .nil) 4 ty4 (.node .nil 5 ty5 .nil)) 9 ty9 (.node (.node .nil 22 ty22 .nil) 24 ty24 (.node .nil 26 ty26 .nil))) 29 ty29 (.node (.node (.node .nil 32 ty32 .nil) 35 ty35 (.node .nil 39 ty39 .nil)) 63 ty63 (.node (.node .nil 66 ty66 .nil) 69 ty69 .nil))) 71 ty71 (.node (.node (.node (.node .nil 75 ty75 .nil) 88 ty88 (.node .nil 90 ty90 .nil)) 94 ty94 (.node (.node .nil 112 ty112 .nil) 122 ty122 .nil)) 124 ty124 (.node (.node (.node .nil 129 ty129 .nil) 132 ty132 (.node .nil 139 ty139 .nil)) 141 ty141 (.node (.node .nil 147 ty147 .nil) 151 ty151 .nil))))
noncomputable def zx : Tr Func := (.node (.node (.node (.node (.node (.node (.node (.node .nil 2 Tryz.f2 .nil) 3 Tryz.f3 .nil) 4 Tryz.f4 (.node .nil 5 Tryz.f5 .nil)) 6 Tryz.f6 (.node (.node .nil 7 Tryz.f7 .nil) 8 Tryz.f8 (.node .nil 9 Tryz.f9 .nil))) 10 Tryz.f10 (.node (.node (.node (.node .nil 11 Tryz.f11 .nil) 12 Tryz.f12 .nil) 13 Tryz.f13 (.node .nil 14 Tryz.f14 .nil)) 15 Tryz.f15 (.node (.node .nil 16 Tryz.f16 .nil) 17 Tryz.f17 (.node .nil 18 Tryz.f18 .nil)))) 19 Tryz.f19 (.node (.node (.node (.node (.node .nil 20 Tryz.f20 .nil) 21 Tryz.f21 .nil) 22 Tryz.f22 (.node .nil 23 Tryz.f23 .nil)) 24 Tryz.f24 (.node (.node .nil 25 Tryz.f25 .nil) 26 Tryz.f26 (.node .nil 27 Tryz.f27 .nil))) 28 Tryz.f28 (.node (.node (.node (.node .nil 29 Tryz.f29 .nil) 30 Tryz.f30 .nil) 31 Tryz.f31 (.node .nil 32 Tryz.f32 .nil)) 33 Tryz.f33 (.node (.node .nil 34 Tryz.f34 .nil) 35 Tryz.f35 (.node .nil 36 Tryz.f36 .nil))))) 37 Tryz.f37 (.node (.node (.node (.node (.node (.node .nil 38 Tryz.f38 .nil) 39 Tryz.f39 .nil) 40 Tryz.f40 (.node .nil 41 Tryz.f41 .nil)) 42 Tryz.f42 (.node (.node .nil 43 Tryz.f43 .nil) 44 Tryz.f44 (.node .nil 45 Tryz.f45 .nil))) 46 Tryz.f46 (.node (.node (.node (.node .nil 47 Tryz.f47 .nil) 48 Tryz.f48 .nil) 49 Tryz.f49 (.node .nil 50 Tryz.f50 .nil)) 51 Tryz.f51 (.node (.node .nil 52 Tryz.f52 .nil) 53 Tryz.f53 (.node .nil 54 Tryz.f54 .nil)))) 55 Tryz.f55 (.node (.node (.node (.node (.node .nil 56 Tryz.f56 .nil) 57 Tryz.f57 .nil) 58 Tryz.f58 (.node .nil 59 Tryz.f59 .nil)) 60 Tryz.f60 (.node (.node .nil 61 Tryz.f61 .nil) 62 Tryz.f62 (.node .nil 63 Tryz.f63 .nil))) 64 Tryz.f64 (.node (.node (.node .nil 65 Tryz.f65 .nil) 66 Tryz.f66 (.node .nil 67 Tryz.f67 .nil)) 68 Tryz.f68 (.node (.node .nil 69 Tryz.f69 .nil) 70 Tryz.f70 (.node .nil 71 Tryz.f71 .nil)))))) 72 Tryz.f72 (.node (.node (.node (.node (.node (.node (.node .nil 73 Tryz.f73 .nil) 74 Tryz.f74 .nil) 75 Tryz.f75 (.node .nil 76 Tryz.f76 .nil)) 77 Tryz.f77 (.node (.node .nil 78 Tryz.f78 .nil) 79 Tryz.f79 (.node .nil 80 Tryz.f80 .nil))) 81 Tryz.f81 (.node (.node (.node (.node .nil 82 Tryz.f82 .nil) 83 Tryz.f83 .nil) 84 Tryz.f84 (.node .nil 85 Tryz.f85 .nil)) 86 Tryz.f86 (.node (.node .nil 87 Tryz.f87 .nil) 88 Tryz.f88 (.node .nil 89 Tryz.f89 .nil)))) 90 Tryz.f90 (.node (.node (.node (.node (.node .nil 91 Tryz.f91 .nil) 92 Tryz.f92 .nil) 93 Tryz.f93 (.node .nil 94 Tryz.f94 .nil)) 95 Tryz.f95 (.node (.node .nil 96 Tryz.f96 .nil) 97 Tryz.f97 (.node .nil 98 Tryz.f98 .nil))) 99 Tryz.f99 (.node (.node (.node (.node .nil 100 Tryz.f100 .nil) 101 Tryz.f101 .nil) 102 Tryz.f102 (.node .nil 103 Tryz.f103 .nil)) 104 Tryz.f104 (.node (.node .nil 105 Tryz.f105 .nil) 106 Tryz.f106 (.node .nil 107 Tryz.f107 .nil))))) 108 Tryz.f108 (.node (.node (.node (.node (.node (.node .nil 109 Tryz.f109 .nil) 110 Tryz.f110 .nil) 111 Tryz.f111 (.node .nil 112 Tryz.f112 .nil)) 113 Tryz.f113 (.node (.node .nil 114 Tryz.f114 .nil) 115 Tryz.f115 (.node .nil 116 Tryz.f116 .nil))) 117 Tryz.f117 (.node (.node (.node (.node .nil 118 Tryz.f118 .nil) 119 Tryz.f119 .nil) 120 Tryz.f120 (.node .nil 121 Tryz.f121 .nil)) 122 Tryz.f122 (.node (.node .nil 123 Tryz.f123 .nil) 124 Tryz.f124 (.node .nil 125 Tryz.f125 .nil)))) 126 Tryz.f126 (.node (.node (.node (.node (.node .nil 127 Tryz.f127 .nil) 128 Tryz.f128 .nil) 129 Tryz.f129 (.node .nil 130 Tryz.f130 .nil)) 131 Tryz.f131 (.node (.node .nil 132 Tryz.f132 .nil) 133 Tryz.f133 (.node .nil 134 Tryz.f134 .nil))) 135 Tryz.f135 (.node (.node (.node .nil 136 Tryz.f136 .nil) 137 Tryz.f137 (.node .nil 138 Tryz.f138 .nil)) 139 Tryz.f139 (.node (.node .nil 140 Tryz.f140 .nil) 141 Tryz.f141 (.node .nil 142 Tryz.f142 .nil)))))))
noncomputable def keepTab : Tr (Tr (List Nat)) := (.node (.node (.node (.node (.node (.node (.node .nil 8 (.node .nil 2 [2, 7, 8, 9] .nil) .nil) 9 (.node .nil 8 [1, 2, 9, 10] .nil) .nil) 10 (.node .nil 7 [1, 2, 7, 8] .nil) (.node .nil 12 (.node .nil 8 [1, 2, 7, 8, 9] .nil) .nil)) 13 (.node .nil 10 [5, 32, 33] .nil) (.node (.node .nil 14 (.node .nil 7 [1, 6, 7, 8] .nil) .nil) 15 (.node .nil 4 [0, 1, 12, 13] .nil) (.node .nil 16 (.node .nil 4 [0, 1, 5] .nil) .nil))) 20 (.node .nil 8 [1, 2, 3, 9, 10, 11] .nil) (.node (.node (.node .nil 30 (.node .nil 5 [1, 4, 5] .nil) .nil) 31 (.node .nil 4 [1, 19, 20, 21] .nil) (.node .nil 33 (.node .nil 8 [2, 6, 21, 22, 23] .nil) .nil)) 34 (.node .nil 5 [1, 2, 5, 6] .nil) (.node (.node .nil 39 (.node .nil 6 [1, 2, 6, 24, 25] .nil) .nil) 40 (.node .nil 5 [1, 2, 4, 5] .nil) (.node .nil 41 (.node .nil 8 [2, 6, 9, 40, 41, 42] .nil) .nil)))) 42 (.node (.node .nil 7 [1, 2, 3, 6, 9] .nil) 13 [1, 2, 3, 6, 10, 11] .nil) (.node (.node (.node (.node .nil 43 (.node .nil 4 [2, 3, 5] .nil) .nil) 46 (.node .nil 4 [0, 1, 5] .nil) (.node .nil 48 (.node .nil 2 [2, 6, 7, 8] .nil) .nil)) 50 (.node .nil 6 [1, 6, 7, 44, 45, 46] .nil) (.node (.node .nil 51 (.node .nil 3 [3, 6, 7, 8] .nil) .nil) 52 (.node .nil 3 [2, 5, 8, 9, 10] .nil) (.node .nil 53 (.node .nil 3 [3, 5, 6] .nil) .nil))) 54 (.node .nil 4 [1, 3] .nil) (.node (.node (.node .nil 57 (.node .nil 3 [1, 2, 5, 6] .nil) .nil) 58 (.node .nil 3 [1, 3, 4] .nil) (.node .nil 62 (.node .nil 3 [1, 2, 5, 6] .nil) .nil)) 63 (.node .nil 6 [1, 2, 7] .nil) (.node (.node .nil 65 (.node .nil 3 [2, 5, 8, 9, 10] .nil) .nil) 66 (.node .nil 4 [3, 9, 10, 11] .nil) (.node .nil 67 (.node .nil 5 [1, 4, 5] .nil) .nil))))) 74 (.node .nil 3 [1, 2, 3, 4] .nil) (.node (.node (.node (.node (.node .nil 75 (.node .nil 3 [1, 2, 3, 7, 8] .nil) .nil) 76 (.node .nil 5 [1, 2, 13, 14, 15] .nil) (.node .nil 77 (.node .nil 3 [2, 3, 7, 12, 13, 14] .nil) .nil)) 79 (.node .nil 3 [1, 2, 5, 6] .nil) (.node (.node .nil 89 (.node (.node .nil 3 [3, 13, 14, 15] .nil) 7 [3, 5, 6, 13, 14, 15, 28, 29, 30] .nil) .nil) 90 (.node .nil 4 [1, 2, 15, 16, 17] .nil) (.node .nil 92 (.node .nil 4 [0, 1, 12, 13] .nil) .nil))) 100 (.node .nil 3 [3, 6, 7, 8] .nil) (.node (.node (.node .nil 102 (.node .nil 2 [0, 1, 9, 10, 11] .nil) .nil) 103 (.node (.node .nil 1 [0, 1, 7, 8] .nil) 5 [0, 1, 3, 4, 7, 8, 11, 12] .nil) (.node .nil 106 (.node .nil 4 [0, 3, 5, 6, 7] .nil) .nil)) 107 (.node .nil 2 [1, 2, 5] .nil) (.node (.node .nil 108 (.node .nil 2 [0, 1, 7, 8] .nil) .nil) 110 (.node .nil 2 [0, 1, 2, 3, 8, 9] .nil) (.node .nil 113 (.node .nil 2 [0, 1, 2, 3, 4, 10, 11] .nil) .nil)))) 114 (.node (.node .nil 1 [0, 1, 2, 6] .nil) 4 [0, 1, 2, 6, 7] .nil) (.node (.node (.node (.node .nil 115 (.node (.node .nil 4 [0, 6, 7, 8, 9] .nil) 8 [0, 6, 7, 10] .nil) .nil) 116 (.node .nil 5 [0, 1, 6, 7, 8, 9] .nil) (.node .nil 118 (.node .nil 2 [0, 6, 7] .nil) .nil)) 119 (.node (.node (.node .nil 3 [0, 1, 2, 7, 8] .nil) 5 [0, 1, 2, 7, 8] .nil) 14 [0, 1, 2, 7, 8, 9] (.node .nil 20 [0, 1, 2, 7, 8, 10] .nil)) (.node (.node .nil 121 (.node (.node .nil 3 [0, 1, 9, 10] .nil) 5 [0, 1, 9, 10] .nil) .nil) 122 (.node (.node (.node .nil 3 [0, 1, 10, 11] .nil) 5 [0, 1, 10, 11] .nil) 13 [0, 1, 10, 11] (.node .nil 15 [0, 1, 10, 11] .nil)) (.node .nil 125 (.node (.node .nil 1 [0, 1, 2, 3, 8] .nil) 4 [0, 1, 2, 3, 8, 9] .nil) .nil))) 126 (.node (.node .nil 4 [0, 3, 8, 9, 10, 11] .nil) 8 [0, 3, 8, 9, 12] .nil) (.node (.node (.node .nil 127 (.node .nil 5 [0, 1, 8, 9, 10, 11] .nil) .nil) 129 (.node .nil 2 [0, 8, 9] .nil) (.node .nil 130 (.node (.node (.node .nil 3 [0, 1, 2, 3, 9, 10] .nil) 5 [0, 1, 2, 3, 9, 10] .nil) 14 [0, 1, 2, 3, 9, 10, 11] (.node .nil 20 [0, 1, 2, 3, 9, 10, 12] .nil)) .nil)) 131 (.node (.node .nil 3 [0, 1, 4, 11, 12] .nil) 5 [0, 1, 4, 11, 12] .nil) (.node (.node .nil 132 (.node (.node (.node .nil 3 [0, 1, 4, 12, 13] .nil) 5 [0, 1, 4, 12, 13] .nil) 13 [0, 1, 4, 12, 13] (.node .nil 15 [0, 1, 4, 12, 13] .nil)) .nil) 133 (.node .nil 1 [0, 2, 3, 8] .nil) (.node .nil 138 (.node .nil 1 [0, 2, 3, 4, 10] .nil) .nil))))))
theorem tyTab_ok : tyTab.All fun t r => tyOf Tryz.prog t = some r := by
  unfold tyTab
  exact (Tr.all_node (Tr.all_node (Tr.all_node (Tr.all_node (Tr.all_node Tr.all_nil ty3_ok Tr.all_nil) ty4_ok (Tr.all_node Tr.all_nil ty5_ok Tr.all_nil)) ty9_ok (Tr.all_node (Tr.all_node Tr.all_nil ty22_ok Tr.all_nil) ty24_ok (Tr.all_node Tr.all_nil ty26_ok Tr.all_nil))) ty29_ok (Tr.all_node (Tr.all_node (Tr.all_node Tr.all_nil ty32_ok Tr.all_nil) ty35_ok (Tr.all_node Tr.all_nil ty39_ok Tr.all_nil)) ty63_ok (Tr.all_node (Tr.all_node Tr.all_nil ty66_ok Tr.all_nil) ty69_ok Tr.all_nil))) ty71_ok (Tr.all_node (Tr.all_node (Tr.all_node (Tr.all_node Tr.all_nil ty75_ok Tr.all_nil) ty88_ok (Tr.all_node Tr.all_nil ty90_ok Tr.all_nil)) ty94_ok (Tr.all_node (Tr.all_node Tr.all_nil ty112_ok Tr.all_nil) ty122_ok Tr.all_nil)) ty124_ok (Tr.all_node (Tr.all_node (Tr.all_node Tr.all_nil ty129_ok Tr.all_nil) ty132_ok (Tr.all_node Tr.all_nil ty139_ok Tr.all_nil)) ty141_ok (Tr.all_node (Tr.all_node Tr.all_nil ty147_ok Tr.all_nil) ty151_ok Tr.all_nil))))
theorem fnTab_ok : zx.All fun k f => Tryz.prog.funcs[k]? = some f := by
  unfold zx
  exact (Tr.all_node (Tr.all_node (Tr.all_node (Tr.all_node (Tr.all_node (Tr.all_node (Tr.all_node (Tr.all_node Tr.all_nil Tryz.func2 Tr.all_nil) Tryz.func3 Tr.all_nil) Tryz.func4 (Tr.all_node Tr.all_nil Tryz.func5 Tr.all_nil)) Tryz.func6 (Tr.all_node (Tr.all_node Tr.all_nil Tryz.func7 Tr.all_nil) Tryz.func8 (Tr.all_node Tr.all_nil Tryz.func9 Tr.all_nil))) Tryz.func10 (Tr.all_node (Tr.all_node (Tr.all_node (Tr.all_node Tr.all_nil Tryz.func11 Tr.all_nil) Tryz.func12 Tr.all_nil) Tryz.func13 (Tr.all_node Tr.all_nil Tryz.func14 Tr.all_nil)) Tryz.func15 (Tr.all_node (Tr.all_node Tr.all_nil Tryz.func16 Tr.all_nil) Tryz.func17 (Tr.all_node Tr.all_nil Tryz.func18 Tr.all_nil)))) Tryz.func19 (Tr.all_node (Tr.all_node (Tr.all_node (Tr.all_node (Tr.all_node Tr.all_nil Tryz.func20 Tr.all_nil) Tryz.func21 Tr.all_nil) Tryz.func22 (Tr.all_node Tr.all_nil Tryz.func23 Tr.all_nil)) Tryz.func24 (Tr.all_node (Tr.all_node Tr.all_nil Tryz.func25 Tr.all_nil) Tryz.func26 (Tr.all_node Tr.all_nil Tryz.func27 Tr.all_nil))) Tryz.func28 (Tr.all_node (Tr.all_node (Tr.all_node (Tr.all_node Tr.all_nil Tryz.func29 Tr.all_nil) Tryz.func30 Tr.all_nil) Tryz.func31 (Tr.all_node Tr.all_nil Tryz.func32 Tr.all_nil)) Tryz.func33 (Tr.all_node (Tr.all_node Tr.all_nil Tryz.func34 Tr.all_nil) Tryz.func35 (Tr.all_node Tr.all_nil Tryz.func36 Tr.all_nil))))) Tryz.func37 (Tr.all_node (Tr.all_node (Tr.all_node (Tr.all_node (Tr.all_node (Tr.all_node Tr.all_nil Tryz.func38 Tr.all_nil) Tryz.func39 Tr.all_nil) Tryz.func40 (Tr.all_node Tr.all_nil Tryz.func41 Tr.all_nil)) Tryz.func42 (Tr.all_node (Tr.all_node Tr.all_nil Tryz.func43 Tr.all_nil) Tryz.func44 (Tr.all_node Tr.all_nil Tryz.func45 Tr.all_nil))) Tryz.func46 (Tr.all_node (Tr.all_node (Tr.all_node (Tr.all_node Tr.all_nil Tryz.func47 Tr.all_nil) Tryz.func48 Tr.all_nil) Tryz.func49 (Tr.all_node Tr.all_nil Tryz.func50 Tr.all_nil)) Tryz.func51 (Tr.all_node (Tr.all_node Tr.all_nil Tryz.func52 Tr.all_nil) Tryz.func53 (Tr.all_node Tr.all_nil Tryz.func54 Tr.all_nil)))) Tryz.func55 (Tr.all_node (Tr.all_node (Tr.all_node (Tr.all_node (Tr.all_node Tr.all_nil Tryz.func56 Tr.all_nil) Tryz.func57 Tr.all_nil) Tryz.func58 (Tr.all_node Tr.all_nil Tryz.func59 Tr.all_nil)) Tryz.func60 (Tr.all_node (Tr.all_node Tr.all_nil Tryz.func61 Tr.all_nil) Tryz.func62 (Tr.all_node Tr.all_nil Tryz.func63 Tr.all_nil))) Tryz.func64 (Tr.all_node (Tr.all_node (Tr.all_node Tr.all_nil Tryz.func65 Tr.all_nil) Tryz.func66 (Tr.all_node Tr.all_nil Tryz.func67 Tr.all_nil)) Tryz.func68 (Tr.all_node (Tr.all_node Tr.all_nil Tryz.func69 Tr.all_nil) Tryz.func70 (Tr.all_node Tr.all_nil Tryz.func71 Tr.all_nil)))))) Tryz.func72 (Tr.all_node (Tr.all_node (Tr.all_node (Tr.all_node (Tr.all_node (Tr.all_node (Tr.all_node Tr.all_nil Tryz.func73 Tr.all_nil) Tryz.func74 Tr.all_nil) Tryz.func75 (Tr.all_node Tr.all_nil Tryz.func76 Tr.all_nil)) Tryz.func77 (Tr.all_node (Tr.all_node Tr.all_nil Tryz.func78 Tr.all_nil) Tryz.func79 (Tr.all_node Tr.all_nil Tryz.func80 Tr.all_nil))) Tryz.func81 (Tr.all_node (Tr.all_node (Tr.all_node (Tr.all_node Tr.all_nil Tryz.func82 Tr.all_nil) Tryz.func83 Tr.all_nil) Tryz.func84 (Tr.all_node Tr.all_nil Tryz.func85 Tr.all_nil)) Tryz.func86 (Tr.all_node (Tr.all_node Tr.all_nil Tryz.func87 Tr.all_nil) Tryz.func88 (Tr.all_node Tr.all_nil Tryz.func89 Tr.all_nil)))) Tryz.func90 (Tr.all_node (Tr.all_node (Tr.all_node (Tr.all_node (Tr.all_node Tr.all_nil Tryz.func91 Tr.all_nil) Tryz.func92 Tr.all_nil) Tryz.func93 (Tr.all_node Tr.all_nil Tryz.func94 Tr.all_nil)) Tryz.func95 (Tr.all_node (Tr.all_node Tr.all_nil Tryz.func96 Tr.all_nil) Tryz.func97 (Tr.all_node Tr.all_nil Tryz.func98 Tr.all_nil))) Tryz.func99 (Tr.all_node (Tr.all_node (Tr.all_node (Tr.all_node Tr.all_nil Tryz.func100 Tr.all_nil) Tryz.func101 Tr.all_nil) Tryz.func102 (Tr.all_node Tr.all_nil Tryz.func103 Tr.all_nil)) Tryz.func104 (Tr.all_node (Tr.all_node Tr.all_nil Tryz.func105 Tr.all_nil) Tryz.func106 (Tr.all_node Tr.all_nil Tryz.func107 Tr.all_nil))))) Tryz.func108 (Tr.all_node (Tr.all_node (Tr.all_node (Tr.all_node (Tr.all_node (Tr.all_node Tr.all_nil Tryz.func109 Tr.all_nil) Tryz.func110 Tr.all_nil) Tryz.func111 (Tr.all_node Tr.all_nil Tryz.func112 Tr.all_nil)) Tryz.func113 (Tr.all_node (Tr.all_node Tr.all_nil Tryz.func114 Tr.all_nil) Tryz.func115 (Tr.all_node Tr.all_nil Tryz.func116 Tr.all_nil))) Tryz.func117 (Tr.all_node (Tr.all_node (Tr.all_node (Tr.all_node Tr.all_nil Tryz.func118 Tr.all_nil) Tryz.func119 Tr.all_nil) Tryz.func120 (Tr.all_node Tr.all_nil Tryz.func121 Tr.all_nil)) Tryz.func122 (Tr.all_node (Tr.all_node Tr.all_nil Tryz.func123 Tr.all_nil) Tryz.func124 (Tr.all_node Tr.all_nil Tryz.func125 Tr.all_nil)))) Tryz.func126 (Tr.all_node (Tr.all_node (Tr.all_node (Tr.all_node (Tr.all_node Tr.all_nil Tryz.func127 Tr.all_nil) Tryz.func128 Tr.all_nil) Tryz.func129 (Tr.all_node Tr.all_nil Tryz.func130 Tr.all_nil)) Tryz.func131 (Tr.all_node (Tr.all_node Tr.all_nil Tryz.func132 Tr.all_nil) Tryz.func133 (Tr.all_node Tr.all_nil Tryz.func134 Tr.all_nil))) Tryz.func135 (Tr.all_node (Tr.all_node (Tr.all_node Tr.all_nil Tryz.func136 Tr.all_nil) Tryz.func137 (Tr.all_node Tr.all_nil Tryz.func138 Tr.all_nil)) Tryz.func139 (Tr.all_node (Tr.all_node Tr.all_nil Tryz.func140 Tr.all_nil) Tryz.func141 (Tr.all_node Tr.all_nil Tryz.func142 Tr.all_nil)))))))
noncomputable def eqB (t : TypeId) : Bool := !Tryz.prog.stoodInHeld t && !Tryz.prog.eqGuardType Tryz.prog.depth t && (match Tryz.prog.underlying t with | some (.struct fs) => fs.toList.all (fun f => f.name != "_") | _ => true)
theorem eq24_ok : eqB 24 = true := by kernel_rfl
theorem eq26_ok : eqB 26 = true := by kernel_rfl
theorem eq66_ok : eqB 66 = true := by kernel_rfl
theorem eq69_ok : eqB 69 = true := by kernel_rfl
theorem eq75_ok : eqB 75 = true := by kernel_rfl
theorem eq90_ok : eqB 90 = true := by kernel_rfl
noncomputable def eqTab : Tr Unit := (.node (.node (.node .nil 24 () .nil) 26 () (.node .nil 66 () .nil)) 69 () (.node (.node .nil 75 () .nil) 90 () .nil))
theorem eqTab_ok : eqTab.All fun t _ => eqB t = true := by
  unfold eqTab
  exact (Tr.all_node (Tr.all_node (Tr.all_node Tr.all_nil eq24_ok Tr.all_nil) eq26_ok (Tr.all_node Tr.all_nil eq66_ok Tr.all_nil)) eq69_ok (Tr.all_node (Tr.all_node Tr.all_nil eq75_ok Tr.all_nil) eq90_ok Tr.all_nil))
theorem en2_ok : Tryz.f2.body.isSome = true ∧ Tryz.f2.name ≠ "runtime.NumGoroutine" := ⟨by kernel_rfl, by decide⟩
theorem en3_ok : Tryz.f3.body.isSome = true ∧ Tryz.f3.name ≠ "runtime.NumGoroutine" := ⟨by kernel_rfl, by decide⟩
theorem en4_ok : Tryz.f4.body.isSome = true ∧ Tryz.f4.name ≠ "runtime.NumGoroutine" := ⟨by kernel_rfl, by decide⟩
theorem en5_ok : Tryz.f5.body.isSome = true ∧ Tryz.f5.name ≠ "runtime.NumGoroutine" := ⟨by kernel_rfl, by decide⟩
theorem en6_ok : Tryz.f6.body.isSome = true ∧ Tryz.f6.name ≠ "runtime.NumGoroutine" := ⟨by kernel_rfl, by decide⟩
theorem en7_ok : Tryz.f7.body.isSome = true ∧ Tryz.f7.name ≠ "runtime.NumGoroutine" := ⟨by kernel_rfl, by decide⟩
theorem en8_ok : Tryz.f8.body.isSome = true ∧ Tryz.f8.name ≠ "runtime.NumGoroutine" := ⟨by kernel_rfl, by decide⟩
theorem en9_ok : Tryz.f9.body.isSome = true ∧ Tryz.f9.name ≠ "runtime.NumGoroutine" := ⟨by kernel_rfl, by decide⟩
theorem en10_ok : Tryz.f10.body.isSome = true ∧ Tryz.f10.name ≠ "runtime.NumGoroutine" := ⟨by kernel_rfl, by decide⟩
theorem en11_ok : Tryz.f11.body.isSome = true ∧ Tryz.f11.name ≠ "runtime.NumGoroutine" := ⟨by kernel_rfl, by decide⟩
theorem en12_ok : Tryz.f12.body.isSome = true ∧ Tryz.f12.name ≠ "runtime.NumGoroutine" := ⟨by kernel_rfl, by decide⟩
theorem en13_ok : Tryz.f13.body.isSome = true ∧ Tryz.f13.name ≠ "runtime.NumGoroutine" := ⟨by kernel_rfl, by decide⟩
theorem en14_ok : Tryz.f14.body.isSome = true ∧ Tryz.f14.name ≠ "runtime.NumGoroutine" := ⟨by kernel_rfl, by decide⟩
theorem en15_ok : Tryz.f15.body.isSome = true ∧ Tryz.f15.name ≠ "runtime.NumGoroutine" := ⟨by kernel_rfl, by decide⟩
theorem en16_ok : Tryz.f16.body.isSome = true ∧ Tryz.f16.name ≠ "runtime.NumGoroutine" := ⟨by kernel_rfl, by decide⟩
theorem en17_ok : Tryz.f17.body.isSome = true ∧ Tryz.f17.name ≠ "runtime.NumGoroutine" := ⟨by kernel_rfl, by decide⟩
theorem en18_ok : Tryz.f18.body.isSome = true ∧ Tryz.f18.name ≠ "runtime.NumGoroutine" := ⟨by kernel_rfl, by decide⟩
theorem en19_ok : Tryz.f19.body.isSome = true ∧ Tryz.f19.name ≠ "runtime.NumGoroutine" := ⟨by kernel_rfl, by decide⟩
theorem en20_ok : Tryz.f20.body.isSome = true ∧ Tryz.f20.name ≠ "runtime.NumGoroutine" := ⟨by kernel_rfl, by decide⟩
theorem en21_ok : Tryz.f21.body.isSome = true ∧ Tryz.f21.name ≠ "runtime.NumGoroutine" := ⟨by kernel_rfl, by decide⟩
theorem en22_ok : Tryz.f22.body.isSome = true ∧ Tryz.f22.name ≠ "runtime.NumGoroutine" := ⟨by kernel_rfl, by decide⟩
theorem en23_ok : Tryz.f23.body.isSome = true ∧ Tryz.f23.name ≠ "runtime.NumGoroutine" := ⟨by kernel_rfl, by decide⟩
theorem en24_ok : Tryz.f24.body.isSome = true ∧ Tryz.f24.name ≠ "runtime.NumGoroutine" := ⟨by kernel_rfl, by decide⟩
theorem en25_ok : Tryz.f25.body.isSome = true ∧ Tryz.f25.name ≠ "runtime.NumGoroutine" := ⟨by kernel_rfl, by decide⟩
theorem en26_ok : Tryz.f26.body.isSome = true ∧ Tryz.f26.name ≠ "runtime.NumGoroutine" := ⟨by kernel_rfl, by decide⟩
theorem en27_ok : Tryz.f27.body.isSome = true ∧ Tryz.f27.name ≠ "runtime.NumGoroutine" := ⟨by kernel_rfl, by decide⟩
theorem en28_ok : Tryz.f28.body.isSome = true ∧ Tryz.f28.name ≠ "runtime.NumGoroutine" := ⟨by kernel_rfl, by decide⟩
theorem en29_ok : Tryz.f29.body.isSome = true ∧ Tryz.f29.name ≠ "runtime.NumGoroutine" := ⟨by kernel_rfl, by decide⟩
theorem en30_ok : Tryz.f30.body.isSome = true ∧ Tryz.f30.name ≠ "runtime.NumGoroutine" := ⟨by kernel_rfl, by decide⟩
theorem en31_ok : Tryz.f31.body.isSome = true ∧ Tryz.f31.name ≠ "runtime.NumGoroutine" := ⟨by kernel_rfl, by decide⟩
theorem en32_ok : Tryz.f32.body.isSome = true ∧ Tryz.f32.name ≠ "runtime.NumGoroutine" := ⟨by kernel_rfl, by decide⟩
theorem en33_ok : Tryz.f33.body.isSome = true ∧ Tryz.f33.name ≠ "runtime.NumGoroutine" := ⟨by kernel_rfl, by decide⟩
theorem en34_ok : Tryz.f34.body.isSome = true ∧ Tryz.f34.name ≠ "runtime.NumGoroutine" := ⟨by kernel_rfl, by decide⟩
theorem en35_ok : Tryz.f35.body.isSome = true ∧ Tryz.f35.name ≠ "runtime.NumGoroutine" := ⟨by kernel_rfl, by decide⟩
theorem en36_ok : Tryz.f36.body.isSome = true ∧ Tryz.f36.name ≠ "runtime.NumGoroutine" := ⟨by kernel_rfl, by decide⟩
theorem en37_ok : Tryz.f37.body.isSome = true ∧ Tryz.f37.name ≠ "runtime.NumGoroutine" := ⟨by kernel_rfl, by decide⟩
theorem en38_ok : Tryz.f38.body.isSome = true ∧ Tryz.f38.name ≠ "runtime.NumGoroutine" := ⟨by kernel_rfl, by decide⟩
theorem en39_ok : Tryz.f39.body.isSome = true ∧ Tryz.f39.name ≠ "runtime.NumGoroutine" := ⟨by kernel_rfl, by decide⟩
theorem en40_ok : Tryz.f40.body.isSome = true ∧ Tryz.f40.name ≠ "runtime.NumGoroutine" := ⟨by kernel_rfl, by decide⟩
theorem en41_ok : Tryz.f41.body.isSome = true ∧ Tryz.f41.name ≠ "runtime.NumGoroutine" := ⟨by kernel_rfl, by decide⟩
theorem en42_ok : Tryz.f42.body.isSome = true ∧ Tryz.f42.name ≠ "runtime.NumGoroutine" := ⟨by kernel_rfl, by decide⟩
theorem en43_ok : Tryz.f43.body.isSome = true ∧ Tryz.f43.name ≠ "runtime.NumGoroutine" := ⟨by kernel_rfl, by decide⟩
theorem en44_ok : Tryz.f44.body.isSome = true ∧ Tryz.f44.name ≠ "runtime.NumGoroutine" := ⟨by kernel_rfl, by decide⟩
theorem en45_ok : Tryz.f45.body.isSome = true ∧ Tryz.f45.name ≠ "runtime.NumGoroutine" := ⟨by kernel_rfl, by decide⟩
theorem en46_ok : Tryz.f46.body.isSome = true ∧ Tryz.f46.name ≠ "runtime.NumGoroutine" := ⟨by kernel_rfl, by decide⟩
theorem en47_ok : Tryz.f47.body.isSome = true ∧ Tryz.f47.name ≠ "runtime.NumGoroutine" := ⟨by kernel_rfl, by decide⟩
theorem en48_ok : Tryz.f48.body.isSome = true ∧ Tryz.f48.name ≠ "runtime.NumGoroutine" := ⟨by kernel_rfl, by decide⟩
theorem en49_ok : Tryz.f49.body.isSome = true ∧ Tryz.f49.name ≠ "runtime.NumGoroutine" := ⟨by kernel_rfl, by decide⟩
theorem en50_ok : Tryz.f50.body.isSome = true ∧ Tryz.f50.name ≠ "runtime.NumGoroutine" := ⟨by kernel_rfl, by decide⟩
theorem en51_ok : Tryz.f51.body.isSome = true ∧ Tryz.f51.name ≠ "runtime.NumGoroutine" := ⟨by kernel_rfl, by decide⟩
theorem en52_ok : Tryz.f52.body.isSome = true ∧ Tryz.f52.name ≠ "runtime.NumGoroutine" := ⟨by kernel_rfl, by decide⟩
theorem en53_ok : Tryz.f53.body.isSome = true ∧ Tryz.f53.name ≠ "runtime.NumGoroutine" := ⟨by kernel_rfl, by decide⟩
theorem en54_ok : Tryz.f54.body.isSome = true ∧ Tryz.f54.name ≠ "runtime.NumGoroutine" := ⟨by kernel_rfl, by decide⟩
theorem en55_ok : Tryz.f55.body.isSome = true ∧ Tryz.f55.name ≠ "runtime.NumGoroutine" := ⟨by kernel_rfl, by decide⟩
theorem en56_ok : Tryz.f56.body.isSome = true ∧ Tryz.f56.name ≠ "runtime.NumGoroutine" := ⟨by kernel_rfl, by decide⟩
theorem en57_ok : Tryz.f57.body.isSome = true ∧ Tryz.f57.name ≠ "runtime.NumGoroutine" := ⟨by kernel_rfl, by decide⟩
theorem en58_ok : Tryz.f58.body.isSome = true ∧ Tryz.f58.name ≠ "runtime.NumGoroutine" := ⟨by kernel_rfl, by decide⟩
theorem en59_ok : Tryz.f59.body.isSome = true ∧ Tryz.f59.name ≠ "runtime.NumGoroutine" := ⟨by kernel_rfl, by decide⟩
theorem en60_ok : Tryz.f60.body.isSome = true ∧ Tryz.f60.name ≠ "runtime.NumGoroutine" := ⟨by kernel_rfl, by decide⟩
theorem en61_ok : Tryz.f61.body.isSome = true ∧ Tryz.f61.name ≠ "runtime.NumGoroutine" := ⟨by kernel_rfl, by decide⟩
theorem en62_ok : Tryz.f62.body.isSome = true ∧ Tryz.f62.name ≠ "runtime.NumGoroutine" := ⟨by kernel_rfl, by decide⟩
theorem en63_ok : Tryz.f63.body.isSome = true ∧ Tryz.f63.name ≠ "runtime.NumGoroutine" := ⟨by kernel_rfl, by decide⟩
theorem en64_ok : Tryz.f64.body.isSome = true ∧ Tryz.f64.name ≠ "runtime.NumGoroutine" := ⟨by kernel_rfl, by decide⟩
theorem en65_ok : Tryz.f65.body.isSome = true ∧ Tryz.f65.name ≠ "runtime.NumGoroutine" := ⟨by kernel_rfl, by decide⟩
theorem en66_ok : Tryz.f66.body.isSome = true ∧ Tryz.f66.name ≠ "runtime.NumGoroutine" := ⟨by kernel_rfl, by decide⟩
theorem en67_ok : Tryz.f67.body.isSome = true ∧ Tryz.f67.name ≠ "runtime.NumGoroutine" := ⟨by kernel_rfl, by decide⟩
theorem en68_ok : Tryz.f68.body.isSome = true ∧ Tryz.f68.name ≠ "runtime.NumGoroutine" := ⟨by kernel_rfl, by decide⟩
theorem en69_ok : Tryz.f69.body.isSome = true ∧ Tryz.f69.name ≠ "runtime.NumGoroutine" := ⟨by kernel_rfl, by decide⟩
theorem en70_ok : Tryz.f70.body.isSome = true ∧ Tryz.f70.name ≠ "runtime.NumGoroutine" := ⟨by kernel_rfl, by decide⟩
theorem en71_ok : Tryz.f71.body.isSome = true ∧ Tryz.f71.name ≠ "runtime.NumGoroutine" := ⟨by kernel_rfl, by decide⟩
theorem en72_ok : Tryz.f72.body.isSome = true ∧ Tryz.f72.name ≠ "runtime.NumGoroutine" := ⟨by kernel_rfl, by decide⟩
theorem en73_ok : Tryz.f73.body.isSome = true ∧ Tryz.f73.name ≠ "runtime.NumGoroutine" := ⟨by kernel_rfl, by decide⟩
theorem en74_ok : Tryz.f74.body.isSome = true ∧ Tryz.f74.name ≠ "runtime.NumGoroutine" := ⟨by kernel_rfl, by decide⟩
theorem en75_ok : Tryz.f75.body.isSome = true ∧ Tryz.f75.name ≠ "runtime.NumGoroutine" := ⟨by kernel_rfl, by decide⟩
theorem en76_ok : Tryz.f76.body.isSome = true ∧ Tryz.f76.name ≠ "runtime.NumGoroutine" := ⟨by kernel_rfl, by decide⟩
theorem en77_ok : Tryz.f77.body.isSome = true ∧ Tryz.f77.name ≠ "runtime.NumGoroutine" := ⟨by kernel_rfl, by decide⟩
theorem en78_ok : Tryz.f78.body.isSome = true ∧ Tryz.f78.name ≠ "runtime.NumGoroutine" := ⟨by kernel_rfl, by decide⟩
theorem en79_ok : Tryz.f79.body.isSome = true ∧ Tryz.f79.name ≠ "runtime.NumGoroutine" := ⟨by kernel_rfl, by decide⟩
theorem en80_ok : Tryz.f80.body.isSome = true ∧ Tryz.f80.name ≠ "runtime.NumGoroutine" := ⟨by kernel_rfl, by decide⟩
theorem en81_ok : Tryz.f81.body.isSome = true ∧ Tryz.f81.name ≠ "runtime.NumGoroutine" := ⟨by kernel_rfl, by decide⟩
theorem en82_ok : Tryz.f82.body.isSome = true ∧ Tryz.f82.name ≠ "runtime.NumGoroutine" := ⟨by kernel_rfl, by decide⟩
theorem en83_ok : Tryz.f83.body.isSome = true ∧ Tryz.f83.name ≠ "runtime.NumGoroutine" := ⟨by kernel_rfl, by decide⟩
theorem en84_ok : Tryz.f84.body.isSome = true ∧ Tryz.f84.name ≠ "runtime.NumGoroutine" := ⟨by kernel_rfl, by decide⟩
theorem en85_ok : Tryz.f85.body.isSome = true ∧ Tryz.f85.name ≠ "runtime.NumGoroutine" := ⟨by kernel_rfl, by decide⟩
theorem en86_ok : Tryz.f86.body.isSome = true ∧ Tryz.f86.name ≠ "runtime.NumGoroutine" := ⟨by kernel_rfl, by decide⟩
theorem en87_ok : Tryz.f87.body.isSome = true ∧ Tryz.f87.name ≠ "runtime.NumGoroutine" := ⟨by kernel_rfl, by decide⟩
theorem en88_ok : Tryz.f88.body.isSome = true ∧ Tryz.f88.name ≠ "runtime.NumGoroutine" := ⟨by kernel_rfl, by decide⟩
theorem en89_ok : Tryz.f89.body.isSome = true ∧ Tryz.f89.name ≠ "runtime.NumGoroutine" := ⟨by kernel_rfl, by decide⟩
theorem en90_ok : Tryz.f90.body.isSome = true ∧ Tryz.f90.name ≠ "runtime.NumGoroutine" := ⟨by kernel_rfl, by decide⟩
theorem en91_ok : Tryz.f91.body.isSome = true ∧ Tryz.f91.name ≠ "runtime.NumGoroutine" := ⟨by kernel_rfl, by decide⟩
theorem en92_ok : Tryz.f92.body.isSome = true ∧ Tryz.f92.name ≠ "runtime.NumGoroutine" := ⟨by kernel_rfl, by decide⟩
theorem en93_ok : Tryz.f93.body.isSome = true ∧ Tryz.f93.name ≠ "runtime.NumGoroutine" := ⟨by kernel_rfl, by decide⟩
theorem en94_ok : Tryz.f94.body.isSome = true ∧ Tryz.f94.name ≠ "runtime.NumGoroutine" := ⟨by kernel_rfl, by decide⟩
theorem en95_ok : Tryz.f95.body.isSome = true ∧ Tryz.f95.name ≠ "runtime.NumGoroutine" := ⟨by kernel_rfl, by decide⟩
theorem en96_ok : Tryz.f96.body.isSome = true ∧ Tryz.f96.name ≠ "runtime.NumGoroutine" := ⟨by kernel_rfl, by decide⟩
theorem en97_ok : Tryz.f97.body.isSome = true ∧ Tryz.f97.name ≠ "runtime.NumGoroutine" := ⟨by kernel_rfl, by decide⟩
theorem en98_ok : Tryz.f98.body.isSome = true ∧ Tryz.f98.name ≠ "runtime.NumGoroutine" := ⟨by kernel_rfl, by decide⟩
theorem en99_ok : Tryz.f99.body.isSome = true ∧ Tryz.f99.name ≠ "runtime.NumGoroutine" := ⟨by kernel_rfl, by decide⟩
theorem en100_ok : Tryz.f100.body.isSome = true ∧ Tryz.f100.name ≠ "runtime.NumGoroutine" := ⟨by kernel_rfl, by decide⟩
theorem en101_ok : Tryz.f101.body.isSome = true ∧ Tryz.f101.name ≠ "runtime.NumGoroutine" := ⟨by kernel_rfl, by decide⟩
theorem en102_ok : Tryz.f102.body.isSome = true ∧ Tryz.f102.name ≠ "runtime.NumGoroutine" := ⟨by kernel_rfl, by decide⟩
theorem en103_ok : Tryz.f103.body.isSome = true ∧ Tryz.f103.name ≠ "runtime.NumGoroutine" := ⟨by kernel_rfl, by decide⟩
theorem en104_ok : Tryz.f104.body.isSome = true ∧ Tryz.f104.name ≠ "runtime.NumGoroutine" := ⟨by kernel_rfl, by decide⟩
theorem en105_ok : Tryz.f105.body.isSome = true ∧ Tryz.f105.name ≠ "runtime.NumGoroutine" := ⟨by kernel_rfl, by decide⟩
theorem en106_ok : Tryz.f106.body.isSome = true ∧ Tryz.f106.name ≠ "runtime.NumGoroutine" := ⟨by kernel_rfl, by decide⟩
theorem en107_ok : Tryz.f107.body.isSome = true ∧ Tryz.f107.name ≠ "runtime.NumGoroutine" := ⟨by kernel_rfl, by decide⟩
theorem en108_ok : Tryz.f108.body.isSome = true ∧ Tryz.f108.name ≠ "runtime.NumGoroutine" := ⟨by kernel_rfl, by decide⟩
theorem en109_ok : Tryz.f109.body.isSome = true ∧ Tryz.f109.name ≠ "runtime.NumGoroutine" := ⟨by kernel_rfl, by decide⟩
theorem en110_ok : Tryz.f110.body.isSome = true ∧ Tryz.f110.name ≠ "runtime.NumGoroutine" := ⟨by kernel_rfl, by decide⟩
theorem en111_ok : Tryz.f111.body.isSome = true ∧ Tryz.f111.name ≠ "runtime.NumGoroutine" := ⟨by kernel_rfl, by decide⟩
theorem en112_ok : Tryz.f112.body.isSome = true ∧ Tryz.f112.name ≠ "runtime.NumGoroutine" := ⟨by kernel_rfl, by decide⟩
theorem en113_ok : Tryz.f113.body.isSome = true ∧ Tryz.f113.name ≠ "runtime.NumGoroutine" := ⟨by kernel_rfl, by decide⟩
theorem en114_ok : Tryz.f114.body.isSome = true ∧ Tryz.f114.name ≠ "runtime.NumGoroutine" := ⟨by kernel_rfl, by decide⟩
theorem en115_ok : Tryz.f115.body.isSome = true ∧ Tryz.f115.name ≠ "runtime.NumGoroutine" := ⟨by kernel_rfl, by decide⟩
theorem en116_ok : Tryz.f116.body.isSome = true ∧ Tryz.f116.name ≠ "runtime.NumGoroutine" := ⟨by kernel_rfl, by decide⟩
theorem en117_ok : Tryz.f117.body.isSome = true ∧ Tryz.f117.name ≠ "runtime.NumGoroutine" := ⟨by kernel_rfl, by decide⟩
theorem en118_ok : Tryz.f118.body.isSome = true ∧ Tryz.f118.name ≠ "runtime.NumGoroutine" := ⟨by kernel_rfl, by decide⟩
theorem en119_ok : Tryz.f119.body.isSome = true ∧ Tryz.f119.name ≠ "runtime.NumGoroutine" := ⟨by kernel_rfl, by decide⟩
theorem en120_ok : Tryz.f120.body.isSome = true ∧ Tryz.f120.name ≠ "runtime.NumGoroutine" := ⟨by kernel_rfl, by decide⟩
theorem en121_ok : Tryz.f121.body.isSome = true ∧ Tryz.f121.name ≠ "runtime.NumGoroutine" := ⟨by kernel_rfl, by decide⟩
theorem en122_ok : Tryz.f122.body.isSome = true ∧ Tryz.f122.name ≠ "runtime.NumGoroutine" := ⟨by kernel_rfl, by decide⟩
theorem en123_ok : Tryz.f123.body.isSome = true ∧ Tryz.f123.name ≠ "runtime.NumGoroutine" := ⟨by kernel_rfl, by decide⟩
theorem en124_ok : Tryz.f124.body.isSome = true ∧ Tryz.f124.name ≠ "runtime.NumGoroutine" := ⟨by kernel_rfl, by decide⟩
theorem en125_ok : Tryz.f125.body.isSome = true ∧ Tryz.f125.name ≠ "runtime.NumGoroutine" := ⟨by kernel_rfl, by decide⟩
theorem en126_ok : Tryz.f126.body.isSome = true ∧ Tryz.f126.name ≠ "runtime.NumGoroutine" := ⟨by kernel_rfl, by decide⟩
theorem en127_ok : Tryz.f127.body.isSome = true ∧ Tryz.f127.name ≠ "runtime.NumGoroutine" := ⟨by kernel_rfl, by decide⟩
theorem en128_ok : Tryz.f128.body.isSome = true ∧ Tryz.f128.name ≠ "runtime.NumGoroutine" := ⟨by kernel_rfl, by decide⟩
theorem en129_ok : Tryz.f129.body.isSome = true ∧ Tryz.f129.name ≠ "runtime.NumGoroutine" := ⟨by kernel_rfl, by decide⟩
theorem en130_ok : Tryz.f130.body.isSome = true ∧ Tryz.f130.name ≠ "runtime.NumGoroutine" := ⟨by kernel_rfl, by decide⟩
theorem en131_ok : Tryz.f131.body.isSome = true ∧ Tryz.f131.name ≠ "runtime.NumGoroutine" := ⟨by kernel_rfl, by decide⟩
theorem en132_ok : Tryz.f132.body.isSome = true ∧ Tryz.f132.name ≠ "runtime.NumGoroutine" := ⟨by kernel_rfl, by decide⟩
theorem en133_ok : Tryz.f133.body.isSome = true ∧ Tryz.f133.name ≠ "runtime.NumGoroutine" := ⟨by kernel_rfl, by decide⟩
theorem en134_ok : Tryz.f134.body.isSome = true ∧ Tryz.f134.name ≠ "runtime.NumGoroutine" := ⟨by kernel_rfl, by decide⟩
theorem en135_ok : Tryz.f135.body.isSome = true ∧ Tryz.f135.name ≠ "runtime.NumGoroutine" := ⟨by kernel_rfl, by decide⟩
theorem en136_ok : Tryz.f136.body.isSome = true ∧ Tryz.f136.name ≠ "runtime.NumGoroutine" := ⟨by kernel_rfl, by decide⟩
theorem en137_ok : Tryz.f137.body.isSome = true ∧ Tryz.f137.name ≠ "runtime.NumGoroutine" := ⟨by kernel_rfl, by decide⟩
theorem en138_ok : Tryz.f138.body.isSome = true ∧ Tryz.f138.name ≠ "runtime.NumGoroutine" := ⟨by kernel_rfl, by decide⟩
theorem en139_ok : Tryz.f139.body.isSome = true ∧ Tryz.f139.name ≠ "runtime.NumGoroutine" := ⟨by kernel_rfl, by decide⟩
theorem en140_ok : Tryz.f140.body.isSome = true ∧ Tryz.f140.name ≠ "runtime.NumGoroutine" := ⟨by kernel_rfl, by decide⟩
theorem en141_ok : Tryz.f141.body.isSome = true ∧ Tryz.f141.name ≠ "runtime.NumGoroutine" := ⟨by kernel_rfl, by decide⟩
theorem en142_ok : Tryz.f142.body.isSome = true ∧ Tryz.f142.name ≠ "runtime.NumGoroutine" := ⟨by kernel_rfl, by decide⟩
theorem enTab_ok : zx.All fun _ f => f.body.isSome = true ∧ f.name ≠ "runtime.NumGoroutine" := by
  unfold zx
  exact (Tr.all_node (Tr.all_node (Tr.all_node (Tr.all_node (Tr.all_node (Tr.all_node (Tr.all_node (Tr.all_node Tr.all_nil en2_ok Tr.all_nil) en3_ok Tr.all_nil) en4_ok (Tr.all_node Tr.all_nil en5_ok Tr.all_nil)) en6_ok (Tr.all_node (Tr.all_node Tr.all_nil en7_ok Tr.all_nil) en8_ok (Tr.all_node Tr.all_nil en9_ok Tr.all_nil))) en10_ok (Tr.all_node (Tr.all_node (Tr.all_node (Tr.all_node Tr.all_nil en11_ok Tr.all_nil) en12_ok Tr.all_nil) en13_ok (Tr.all_node Tr.all_nil en14_ok Tr.all_nil)) en15_ok (Tr.all_node (Tr.all_node Tr.all_nil en16_ok Tr.all_nil) en17_ok (Tr.all_node Tr.all_nil en18_ok Tr.all_nil)))) en19_ok (Tr.all_node (Tr.all_node (Tr.all_node (Tr.all_node (Tr.all_node Tr.all_nil en20_ok Tr.all_nil) en21_ok Tr.all_nil) en22_ok (Tr.all_node Tr.all_nil en23_ok Tr.all_nil)) en24_ok (Tr.all_node (Tr.all_node Tr.all_nil en25_ok Tr.all_nil) en26_ok (Tr.all_node Tr.all_nil en27_ok Tr.all_nil))) en28_ok (Tr.all_node (Tr.all_node (Tr.all_node (Tr.all_node Tr.all_nil en29_ok Tr.all_nil) en30_ok Tr.all_nil) en31_ok (Tr.all_node Tr.all_nil en32_ok Tr.all_nil)) en33_ok (Tr.all_node (Tr.all_node Tr.all_nil en34_ok Tr.all_nil) en35_ok (Tr.all_node Tr.all_nil en36_ok Tr.all_nil))))) en37_ok (Tr.all_node (Tr.all_node (Tr.all_node (Tr.all_node (Tr.all_node (Tr.all_node Tr.all_nil en38_ok Tr.all_nil) en39_ok Tr.all_nil) en40_ok (Tr.all_node Tr.all_nil en41_ok Tr.all_nil)) en42_ok (Tr.all_node (Tr.all_node Tr.all_nil en43_ok Tr.all_nil) en44_ok (Tr.all_node Tr.all_nil en45_ok Tr.all_nil))) en46_ok (Tr.all_node (Tr.all_node (Tr.all_node (Tr.all_node Tr.all_nil en47_ok Tr.all_nil) en48_ok Tr.all_nil) en49_ok (Tr.all_node Tr.all_nil en50_ok Tr.all_nil)) en51_ok (Tr.all_node (Tr.all_node Tr.all_nil en52_ok Tr.all_nil) en53_ok (Tr.all_node Tr.all_nil en54_ok Tr.all_nil)))) en55_ok (Tr.all_node (Tr.all_node (Tr.all_node (Tr.all_node (Tr.all_node Tr.all_nil en56_ok Tr.all_nil) en57_ok Tr.all_nil) en58_ok (Tr.all_node Tr.all_nil en59_ok Tr.all_nil)) en60_ok (Tr.all_node (Tr.all_node Tr.all_nil en61_ok Tr.all_nil) en62_ok (Tr.all_node Tr.all_nil en63_ok Tr.all_nil))) en64_ok (Tr.all_node (Tr.all_node (Tr.all_node Tr.all_nil en65_ok Tr.all_nil) en66_ok (Tr.all_node Tr.all_nil en67_ok Tr.all_nil)) en68_ok (Tr.all_node (Tr.all_node Tr.all_nil en69_ok Tr.all_nil) en70_ok (Tr.all_node Tr.all_nil en71_ok Tr.all_nil)))))) en72_ok (Tr.all_node (Tr.all_node (Tr.all_node (Tr.all_node (Tr.all_node (Tr.all_node (Tr.all_node Tr.all_nil en73_ok Tr.all_nil) en74_ok Tr.all_nil) en75_ok (Tr.all_node Tr.all_nil en76_ok Tr.all_nil)) en77_ok (Tr.all_node (Tr.all_node Tr.all_nil en78_ok Tr.all_nil) en79_ok (Tr.all_node Tr.all_nil en80_ok Tr.all_nil))) en81_ok (Tr.all_node (Tr.all_node (Tr.all_node (Tr.all_node Tr.all_nil en82_ok Tr.all_nil) en83_ok Tr.all_nil) en84_ok (Tr.all_node Tr.all_nil en85_ok Tr.all_nil)) en86_ok (Tr.all_node (Tr.all_node Tr.all_nil en87_ok Tr.all_nil) en88_ok (Tr.all_node Tr.all_nil en89_ok Tr.all_nil)))) en90_ok (Tr.all_node (Tr.all_node (Tr.all_node (Tr.all_node (Tr.all_node Tr.all_nil en91_ok Tr.all_nil) en92_ok Tr.all_nil) en93_ok (Tr.all_node Tr.all_nil en94_ok Tr.all_nil)) en95_ok (Tr.all_node (Tr.all_node Tr.all_nil en96_ok Tr.all_nil) en97_ok (Tr.all_node Tr.all_nil en98_ok Tr.all_nil))) en99_ok (Tr.all_node (Tr.all_node (Tr.all_node (Tr.all_node Tr.all_nil en100_ok Tr.all_nil) en101_ok Tr.all_nil) en102_ok (Tr.all_node Tr.all_nil en103_ok Tr.all_nil)) en104_ok (Tr.all_node (Tr.all_node Tr.all_nil en105_ok Tr.all_nil) en106_ok (Tr.all_node Tr.all_nil en107_ok Tr.all_nil))))) en108_ok (Tr.all_node (Tr.all_node (Tr.all_node (Tr.all_node (Tr.all_node (Tr.all_node Tr.all_nil en109_ok Tr.all_nil) en110_ok Tr.all_nil) en111_ok (Tr.all_node Tr.all_nil en112_ok Tr.all_nil)) en113_ok (Tr.all_node (Tr.all_node Tr.all_nil en114_ok Tr.all_nil) en115_ok (Tr.all_node Tr.all_nil en116_ok Tr.all_nil))) en117_ok (Tr.all_node (Tr.all_node (Tr.all_node (Tr.all_node Tr.all_nil en118_ok Tr.all_nil) en119_ok Tr.all_nil) en120_ok (Tr.all_node Tr.all_nil en121_ok Tr.all_nil)) en122_ok (Tr.all_node (Tr.all_node Tr.all_nil en123_ok Tr.all_nil) en124_ok (Tr.all_node Tr.all_nil en125_ok Tr.all_nil)))) en126_ok (Tr.all_node (Tr.all_node (Tr.all_node (Tr.all_node (Tr.all_node Tr.all_nil en127_ok Tr.all_nil) en128_ok Tr.all_nil) en129_ok (Tr.all_node Tr.all_nil en130_ok Tr.all_nil)) en131_ok (Tr.all_node (Tr.all_node Tr.all_nil en132_ok Tr.all_nil) en133_ok (Tr.all_node Tr.all_nil en134_ok Tr.all_nil))) en135_ok (Tr.all_node (Tr.all_node (Tr.all_node Tr.all_nil en136_ok Tr.all_nil) en137_ok (Tr.all_node Tr.all_nil en138_ok Tr.all_nil)) en139_ok (Tr.all_node (Tr.all_node Tr.all_nil en140_ok Tr.all_nil) en141_ok (Tr.all_node Tr.all_nil en142_ok Tr.all_nil)))))))
theorem cty3 : tyTab.find 3 = some ty3 := by kernel_rfl
theorem cty4 : tyTab.find 4 = some ty4 := by kernel_rfl
theorem cty5 : tyTab.find 5 = some ty5 := by kernel_rfl
theorem cty9 : tyTab.find 9 = some ty9 := by kernel_rfl
theorem cty22 : tyTab.find 22 = some ty22 := by kernel_rfl
theorem cty24 : tyTab.find 24 = some ty24 := by kernel_rfl
theorem cty26 : tyTab.find 26 = some ty26 := by kernel_rfl
theorem cty29 : tyTab.find 29 = some ty29 := by kernel_rfl
theorem cty32 : tyTab.find 32 = some ty32 := by kernel_rfl
theorem cty35 : tyTab.find 35 = some ty35 := by kernel_rfl
theorem cty39 : tyTab.find 39 = some ty39 := by kernel_rfl
theorem cty63 : tyTab.find 63 = some ty63 := by kernel_rfl
theorem cty66 : tyTab.find 66 = some ty66 := by kernel_rfl
theorem cty69 : tyTab.find 69 = some ty69 := by kernel_rfl
theorem cty71 : tyTab.find 71 = some ty71 := by kernel_rfl
theorem cty75 : tyTab.find 75 = some ty75 := by kernel_rfl
theorem cty88 : tyTab.find 88 = some ty88 := by kernel_rfl
theorem cty90 : tyTab.find 90 = some ty90 := by kernel_rfl
theorem cty94 : tyTab.find 94 = some ty94 := by kernel_rfl
theorem cty112 : tyTab.find 112 = some ty112 := by kernel_rfl
theorem cty122 : tyTab.find 122 = some ty122 := by kernel_rfl
theorem cty124 : tyTab.find 124 = some ty124 := by kernel_rfl
theorem cty129 : tyTab.find 129 = some ty129 := by kernel_rfl
theorem cty132 : tyTab.find 132 = some ty132 := by kernel_rfl
theorem cty139 : tyTab.find 139 = some ty139 := by kernel_rfl
theorem cty141 : tyTab.find 141 = some ty141 := by kernel_rfl
theorem cty147 : tyTab.find 147 = some ty147 := by kernel_rfl
theorem cty151 : tyTab.find 151 = some ty151 := by kernel_rfl
theorem cfn2 : zx.find 2 = some Tryz.f2 := by kernel_rfl
theorem cfn3 : zx.find 3 = some Tryz.f3 := by kernel_rfl
theorem cfn4 : zx.find 4 = some Tryz.f4 := by kernel_rfl
theorem cfn5 : zx.find 5 = some Tryz.f5 := by kernel_rfl
theorem cfn6 : zx.find 6 = some Tryz.f6 := by kernel_rfl
theorem cfn7 : zx.find 7 = some Tryz.f7 := by kernel_rfl
theorem cfn8 : zx.find 8 = some Tryz.f8 := by kernel_rfl
theorem cfn9 : zx.find 9 = some Tryz.f9 := by kernel_rfl
theorem cfn10 : zx.find 10 = some Tryz.f10 := by kernel_rfl
theorem cfn11 : zx.find 11 = some Tryz.f11 := by kernel_rfl
theorem cfn12 : zx.find 12 = some Tryz.f12 := by kernel_rfl
theorem cfn13 : zx.find 13 = some Tryz.f13 := by kernel_rfl
theorem cfn14 : zx.find 14 = some Tryz.f14 := by kernel_rfl
theorem cfn15 : zx.find 15 = some Tryz.f15 := by kernel_rfl
theorem cfn16 : zx.find 16 = some Tryz.f16 := by kernel_rfl
theorem cfn17 : zx.find 17 = some Tryz.f17 := by kernel_rfl
theorem cfn18 : zx.find 18 = some Tryz.f18 := by kernel_rfl
theorem cfn19 : zx.find 19 = some Tryz.f19 := by kernel_rfl
theorem cfn20 : zx.find 20 = some Tryz.f20 := by kernel_rfl
theorem cfn21 : zx.find 21 = some Tryz.f21 := by kernel_rfl
theorem cfn22 : zx.find 22 = some Tryz.f22 := by kernel_rfl
theorem cfn23 : zx.find 23 = some Tryz.f23 := by kernel_rfl
theorem cfn24 : zx.find 24 = some Tryz.f24 := by kernel_rfl
theorem cfn25 : zx.find 25 = some Tryz.f25 := by kernel_rfl
theorem cfn26 : zx.find 26 = some Tryz.f26 := by kernel_rfl
theorem cfn27 : zx.find 27 = some Tryz.f27 := by kernel_rfl
theorem cfn28 : zx.find 28 = some Tryz.f28 := by kernel_rfl
theorem cfn29 : zx.find 29 = some Tryz.f29 := by kernel_rfl
theorem cfn30 : zx.find 30 = some Tryz.f30 := by kernel_rfl
theorem cfn31 : zx.find 31 = some Tryz.f31 := by kernel_rfl
theorem cfn32 : zx.find 32 = some Tryz.f32 := by kernel_rfl
theorem cfn33 : zx.find 33 = some Tryz.f33 := by kernel_rfl
theorem cfn34 : zx.find 34 = some Tryz.f34 := by kernel_rfl
theorem cfn35 : zx.find 35 = some Tryz.f35 := by kernel_rfl
theorem cfn36 : zx.find 36 = some Tryz.f36 := by kernel_rfl
theorem cfn37 : zx.find 37 = some Tryz.f37 := by kernel_rfl
theorem cfn38 : zx.find 38 = some Tryz.f38 := by kernel_rfl
theorem cfn39 : zx.find 39 = some Tryz.f39 := by kernel_rfl
theorem cfn40 : zx.find 40 = some Tryz.f40 := by kernel_rfl
theorem cfn41 : zx.find 41 = some Tryz.f41 := by kernel_rfl
theorem cfn42 : zx.find 42 = some Tryz.f42 := by kernel_rfl
theorem cfn43 : zx.find 43 = some Tryz.f43 := by kernel_rfl
theorem cfn44 : zx.find 44 = some Tryz.f44 := by kernel_rfl
theorem cfn45 : zx.find 45 = some Tryz.f45 := by kernel_rfl
theorem cfn46 : zx.find 46 = some Tryz.f46 := by kernel_rfl
theorem cfn47 : zx.find 47 = some Tryz.f47 := by kernel_rfl
theorem cfn48 : zx.find 48 = some Tryz.f48 := by kernel_rfl
theorem cfn49 : zx.find 49 = some Tryz.f49 := by kernel_rfl
theorem cfn50 : zx.find 50 = some Tryz.f50 := by kernel_rfl
theorem cfn51 : zx.find 51 = some Tryz.f51 := by kernel_rfl
theorem cfn52 : zx.find 52 = some Tryz.f52 := by kernel_rfl
theorem cfn53 : zx.find 53 = some Tryz.f53 := by kernel_rfl
theorem cfn54 : zx.find 54 = some Tryz.f54 := by kernel_rfl
theorem cfn55 : zx.find 55 = some Tryz.f55 := by kernel_rfl
theorem cfn56 : zx.find 56 = some Tryz.f56 := by kernel_rfl
theorem cfn57 : zx.find 57 = some Tryz.f57 := by kernel_rfl
theorem cfn58 : zx.find 58 = some Tryz.f58 := by kernel_rfl
theorem cfn59 : zx.find 59 = some Tryz.f59 := by kernel_rfl
theorem cfn60 : zx.find 60 = some Tryz.f60 := by kernel_rfl
theorem cfn61 : zx.find 61 = some Tryz.f61 := by kernel_rfl
theorem cfn62 : zx.find 62 = some Tryz.f62 := by kernel_rfl
theorem cfn63 : zx.find 63 = some Tryz.f63 := by kernel_rfl
theorem cfn64 : zx.find 64 = some Tryz.f64 := by kernel_rfl
theorem cfn65 : zx.find 65 = some Tryz.f65 := by kernel_rfl
theorem cfn66 : zx.find 66 = some Tryz.f66 := by kernel_rfl
theorem cfn67 : zx.find 67 = some Tryz.f67 := by kernel_rfl
theorem cfn68 : zx.find 68 = some Tryz.f68 := by kernel_rfl
theorem cfn69 : zx.find 69 = some Tryz.f69 := by kernel_rfl
theorem cfn70 : zx.find 70 = some Tryz.f70 := by kernel_rfl
theorem cfn71 : zx.find 71 = some Tryz.f71 := by kernel_rfl
theorem cfn72 : zx.find 72 = some Tryz.f72 := by kernel_rfl
theorem cfn73 : zx.find 73 = some Tryz.f73 := by kernel_rfl
theorem cfn74 : zx.find 74 = some Tryz.f74 := by kernel_rfl
theorem cfn75 : zx.find 75 = some Tryz.f75 := by kernel_rfl
theorem cfn76 : zx.find 76 = some Tryz.f76 := by kernel_rfl
theorem cfn77 : zx.find 77 = some Tryz.f77 := by kernel_rfl
theorem cfn78 : zx.find 78 = some Tryz.f78 := by kernel_rfl
theorem cfn79 : zx.find 79 = some Tryz.f79 := by kernel_rfl
theorem cfn80 : zx.find 80 = some Tryz.f80 := by kernel_rfl
theorem cfn81 : zx.find 81 = some Tryz.f81 := by kernel_rfl
theorem cfn82 : zx.find 82 = some Tryz.f82 := by kernel_rfl
theorem cfn83 : zx.find 83 = some Tryz.f83 := by kernel_rfl
theorem cfn84 : zx.find 84 = some Tryz.f84 := by kernel_rfl
theorem cfn85 : zx.find 85 = some Tryz.f85 := by kernel_rfl
theorem cfn86 : zx.find 86 = some Tryz.f86 := by kernel_rfl
theorem cfn87 : zx.find 87 = some Tryz.f87 := by kernel_rfl
theorem cfn88 : zx.find 88 = some Tryz.f88 := by kernel_rfl
theorem cfn89 : zx.find 89 = some Tryz.f89 := by kernel_rfl
theorem cfn90 : zx.find 90 = some Tryz.f90 := by kernel_rfl
theorem cfn91 : zx.find 91 = some Tryz.f91 := by kernel_rfl
theorem cfn92 : zx.find 92 = some Tryz.f92 := by kernel_rfl
theorem cfn93 : zx.find 93 = some Tryz.f93 := by kernel_rfl
theorem cfn94 : zx.find 94 = some Tryz.f94 := by kernel_rfl
theorem cfn95 : zx.find 95 = some Tryz.f95 := by kernel_rfl
theorem cfn96 : zx.find 96 = some Tryz.f96 := by kernel_rfl
theorem cfn97 : zx.find 97 = some Tryz.f97 := by kernel_rfl
theorem cfn98 : zx.find 98 = some Tryz.f98 := by kernel_rfl
theorem cfn99 : zx.find 99 = some Tryz.f99 := by kernel_rfl
theorem cfn100 : zx.find 100 = some Tryz.f100 := by kernel_rfl
theorem cfn101 : zx.find 101 = some Tryz.f101 := by kernel_rfl
theorem cfn102 : zx.find 102 = some Tryz.f102 := by kernel_rfl
theorem cfn103 : zx.find 103 = some Tryz.f103 := by kernel_rfl
theorem cfn104 : zx.find 104 = some Tryz.f104 := by kernel_rfl
theorem cfn105 : zx.find 105 = some Tryz.f105 := by kernel_rfl
theorem cfn106 : zx.find 106 = some Tryz.f106 := by kernel_rfl
theorem cfn107 : zx.find 107 = some Tryz.f107 := by kernel_rfl
theorem cfn108 : zx.find 108 = some Tryz.f108 := by kernel_rfl
theorem cfn109 : zx.find 109 = some Tryz.f109 := by kernel_rfl
theorem cfn110 : zx.find 110 = some Tryz.f110 := by kernel_rfl
theorem cfn111 : zx.find 111 = some Tryz.f111 := by kernel_rfl
theorem cfn112 : zx.find 112 = some Tryz.f112 := by kernel_rfl
theorem cfn113 : zx.find 113 = some Tryz.f113 := by kernel_rfl
theorem cfn114 : zx.find 114 = some Tryz.f114 := by kernel_rfl
theorem cfn115 : zx.find 115 = some Tryz.f115 := by kernel_rfl
theorem cfn116 : zx.find 116 = some Tryz.f116 := by kernel_rfl
theorem cfn117 : zx.find 117 = some Tryz.f117 := by kernel_rfl
theorem cfn118 : zx.find 118 = some Tryz.f118 := by kernel_rfl
theorem cfn119 : zx.find 119 = some Tryz.f119 := by kernel_rfl
theorem cfn120 : zx.find 120 = some Tryz.f120 := by kernel_rfl
theorem cfn121 : zx.find 121 = some Tryz.f121 := by kernel_rfl
theorem cfn122 : zx.find 122 = some Tryz.f122 := by kernel_rfl
theorem cfn123 : zx.find 123 = some Tryz.f123 := by kernel_rfl
theorem cfn124 : zx.find 124 = some Tryz.f124 := by kernel_rfl
theorem cfn125 : zx.find 125 = some Tryz.f125 := by kernel_rfl
theorem cfn126 : zx.find 126 = some Tryz.f126 := by kernel_rfl
theorem cfn127 : zx.find 127 = some Tryz.f127 := by kernel_rfl
theorem cfn128 : zx.find 128 = some Tryz.f128 := by kernel_rfl
theorem cfn129 : zx.find 129 = some Tryz.f129 := by kernel_rfl
theorem cfn130 : zx.find 130 = some Tryz.f130 := by kernel_rfl
theorem cfn131 : zx.find 131 = some Tryz.f131 := by kernel_rfl
theorem cfn132 : zx.find 132 = some Tryz.f132 := by kernel_rfl
theorem cfn133 : zx.find 133 = some Tryz.f133 := by kernel_rfl
theorem cfn134 : zx.find 134 = some Tryz.f134 := by kernel_rfl
theorem cfn135 : zx.find 135 = some Tryz.f135 := by kernel_rfl
theorem cfn136 : zx.find 136 = some Tryz.f136 := by kernel_rfl
theorem cfn137 : zx.find 137 = some Tryz.f137 := by kernel_rfl
theorem cfn138 : zx.find 138 = some Tryz.f138 := by kernel_rfl
theorem cfn139 : zx.find 139 = some Tryz.f139 := by kernel_rfl
theorem cfn140 : zx.find 140 = some Tryz.f140 := by kernel_rfl
theorem cfn141 : zx.find 141 = some Tryz.f141 := by kernel_rfl
theorem cfn142 : zx.find 142 = some Tryz.f142 := by kernel_rfl
theorem lty3 : tyTab.find 3 = some ⟨(.int .i64), 1, 8, (.int .i64 0)⟩ := cty3
theorem lty4 : tyTab.find 4 = some ⟨.bool, 1, 1, (.bool false)⟩ := cty4
theorem lty5 : tyTab.find 5 = some ⟨(.int .u8), 1, 1, (.int .u8 0)⟩ := cty5
theorem lty9 : tyTab.find 9 = some ⟨.str, 1, 16, (.string ⟨#[]⟩)⟩ := cty9
theorem lty22 : tyTab.find 22 = some ⟨(.slice 69), 1, 24, (.slice none 0 0)⟩ := cty22
theorem lty24 : tyTab.find 24 = some ⟨(.struct [(3, 0), (3, 1)]), 2, 16, (.agg #[(.int .i64 0), (.int .i64 0)])⟩ := cty24
theorem lty26 : tyTab.find 26 = some ⟨(.struct [(22, 0), (24, 1)]), 3, 40, (.agg #[(.slice none 0 0), (.int .i64 0), (.int .i64 0)])⟩ := cty26
theorem lty29 : tyTab.find 29 = some ⟨(.int .i64), 1, 8, (.int .i64 0)⟩ := cty29
theorem lty32 : tyTab.find 32 = some ⟨(.slice 3), 1, 24, (.slice none 0 0)⟩ := cty32
theorem lty35 : tyTab.find 35 = some ⟨(.slice 66), 1, 24, (.slice none 0 0)⟩ := cty35
theorem lty39 : tyTab.find 39 = some ⟨.func, 1, 8, .nilFunc⟩ := cty39
theorem lty63 : tyTab.find 63 = some ⟨(.slice 35), 1, 24, (.slice none 0 0)⟩ := cty63
theorem lty66 : tyTab.find 66 = some ⟨(.arr 2 3), 2, 16, (.agg #[(.int .i64 0), (.int .i64 0)])⟩ := cty66
theorem lty69 : tyTab.find 69 = some ⟨(.struct [(24, 0), (3, 2), (3, 3)]), 4, 32, (.agg #[(.int .i64 0), (.int .i64 0), (.int .i64 0), (.int .i64 0)])⟩ := cty69
theorem lty71 : tyTab.find 71 = some ⟨(.slice 32), 1, 24, (.slice none 0 0)⟩ := cty71
theorem lty75 : tyTab.find 75 = some ⟨(.struct [(24, 0), (3, 2), (24, 3)]), 5, 40, (.agg #[(.int .i64 0), (.int .i64 0), (.int .i64 0), (.int .i64 0), (.int .i64 0)])⟩ := cty75
theorem lty88 : tyTab.find 88 = some ⟨.func, 1, 8, .nilFunc⟩ := cty88
theorem lty90 : tyTab.find 90 = some ⟨(.struct [(88, 0)]), 1, 8, (.agg #[.nilFunc])⟩ := cty90
theorem lty94 : tyTab.find 94 = some ⟨.func, 1, 8, .nilFunc⟩ := cty94
theorem lty112 : tyTab.find 112 = some ⟨.func, 1, 8, .nilFunc⟩ := cty112
theorem lty122 : tyTab.find 122 = some ⟨.func, 1, 8, .nilFunc⟩ := cty122
theorem lty124 : tyTab.find 124 = some ⟨.func, 1, 8, .nilFunc⟩ := cty124
theorem lty129 : tyTab.find 129 = some ⟨(.int .u64), 1, 8, (.int .u64 0)⟩ := cty129
theorem lty132 : tyTab.find 132 = some ⟨(.int .i64), 1, 8, (.int .i64 0)⟩ := cty132
theorem lty139 : tyTab.find 139 = some ⟨(.int .u32), 1, 4, (.int .u32 0)⟩ := cty139
theorem lty141 : tyTab.find 141 = some ⟨(.int .u64), 1, 8, (.int .u64 0)⟩ := cty141
theorem lty147 : tyTab.find 147 = some ⟨(.int .u64), 1, 8, (.int .u64 0)⟩ := cty147
theorem lty151 : tyTab.find 151 = some ⟨(.ptr 3), 1, 8, (.pointer none)⟩ := cty151
set_option linter.defProp false
def tys := (And.intro (And.intro (And.intro (And.intro @lty3 (And.intro @lty4 @lty5)) (And.intro (And.intro @lty9 @lty22) (And.intro @lty24 @lty26))) (And.intro (And.intro @lty29 (And.intro @lty32 @lty35)) (And.intro (And.intro @lty39 @lty63) (And.intro @lty66 @lty69)))) (And.intro (And.intro (And.intro @lty71 (And.intro @lty75 @lty88)) (And.intro (And.intro @lty90 @lty94) (And.intro @lty112 @lty122))) (And.intro (And.intro @lty124 (And.intro @lty129 @lty132)) (And.intro (And.intro @lty139 @lty141) (And.intro @lty147 @lty151)))))
noncomputable def find2 (t : Tr (Tr (List Nat))) (f r : Nat) : List Nat := match t.find f with | some u => (match u.find r with | some l => l | none => []) | none => []
end Go.VS
/-
  VS, part W: to walk through code, one operation after the other. (A text of this claim's own; nothing of it is trusted.)
-/
namespace Go.VS
open Go

/-- What is to be done behind the code at hand. -/
inductive Kt where
  | code (c : Code) | block (id : Nat) | scope | loop (a : Code)

section
variable {β : Type} (C : Cfg) (S : Sm) (f : FuncId) (F : Exit → St → Option β)
def contK : List Kt → Exit → St → Option β
  | [], e, st => F e st
  | .code c :: k, e, st => match e with
    | .normal => match zK C S f c st with
      | some (e, st') => contK k e st'
      | none => none
    | e => contK k e st
  | .block id :: k, e, st => match e with
    | .exit id' => if id' = id then contK k .normal st else contK k (.exit id') st
    | e => contK k e st
  | .scope :: k, e, st => match e with
    | .goto _ => none
    | e => contK k e st
  | .loop a :: k, e, st => match e with
    | .normal => match gc (C.keep f (firstRegion a)) st with
      | some st1 => match S.loop f a st1 with
        | some (e, st2) => contK k e st2
        | none => none
      | none => none
    | e => contK k e st
/-- A loop from its head on. -/
def EvL (a : Code) (k : List Kt) (st : St) : Option β := match S.loop f a st with
  | some (e, st') => contK C S f F k e st'
  | none => none
def EvC (c : Code) (k : List Kt) (st : St) : Option β := match zK C S f c st with
  | some (e, st') => contK C S f F k e st'
  | none => none
/-- A region whose order is the text's. -/
def EvU (ops : Array Oper) (l : List Oper) (k : List Kt) (st : St) : Option β := match evOps C S ops l st with
  | some st' => contK C S f F k .normal st'
  | none => none
/-- A region whose order is drawn. -/
def EvD (ops : Array Oper) (l : List Oper) (tr : Trace) (k : List Kt) (st : St) : Option β := match evOpsT C S ops l st with
  | some (st', tr') => if regOK ops && traceOK ops (tr.reverse ++ tr') then contK C S f F k .normal st' else none
  | none => none
end

section
variable {β : Type} {C : Cfg} {S : Sm} {f : FuncId} {F : Exit → St → Option β} {k : List Kt} {st : St} {r : Option β} {a b c : Code}
theorem w_skip : EvC C S f F .skip k st = contK C S f F k .normal st := rfl
theorem w_label {l : Nat} : EvC C S f F (.label l) k st = contK C S f F k .normal st := rfl
theorem w_ret : EvC C S f F .ret k st = contK C S f F k .ret st := rfl
theorem w_exit {id : Nat} : EvC C S f F (.exit id) k st = contK C S f F k (.exit id) st := rfl
theorem w_seq : EvC C S f F (.seq a b) k st = EvC C S f F a (.code b :: k) st := by
  simp only [EvC, zK]
  cases h : zK C S f a st with
  | none => rfl
  | some p =>
    obtain ⟨e, st'⟩ := p
    cases e <;> rfl
theorem w_block {id : Nat} : EvC C S f F (.block id a) k st = EvC C S f F a (.block id :: k) st := by
  simp only [EvC, zK]
  cases h : zK C S f a st with
  | none => rfl
  | some p =>
    obtain ⟨e, st'⟩ := p
    cases e <;> try rfl
    rename_i id'
    simp only [contK]
    by_cases h' : id' = id
    · rw [if_pos h', if_pos h']
    · rw [if_neg h', if_neg h']
theorem w_scope : EvC C S f F (.scope a) k st = EvC C S f F a (.scope :: k) st := by
  simp only [EvC, zK]
  cases h : zK C S f a st with
  | none => rfl
  | some p =>
    obtain ⟨e, st'⟩ := p
    cases e <;> rfl
theorem w_region {id : Nat} {ops : Array Oper} : EvC C S f F (.region id ops false) k st = EvU C S f F ops ops.toList k st := by
  simp only [EvC, zK, EvU, Bool.false_eq_true, if_false]
  cases evOps C S ops ops.toList st <;> rfl
theorem w_drawn {id : Nat} {ops : Array Oper} : EvC C S f F (.region id ops true) k st = EvD C S f F ops ops.toList [] k st := by
  simp only [EvC, zK, EvD, if_true]
  cases evOpsT C S ops ops.toList st with
  | none => rfl
  | some p =>
    obtain ⟨st', tr⟩ := p
    show (match (if regOK ops && traceOK ops tr then some (Exit.normal, st') else none) with | some (e, st') => contK C S f F k e st' | none => none) = if regOK ops && traceOK ops tr then contK C S f F k .normal st' else none
    cases regOK ops && traceOK ops tr <;> rfl
theorem w_cond {x : Operand} {t : Bool} (h : zD C (get st.tmps) x = .val (.bool t)) : EvC C S f F (.cond x a b) k st = if t then EvC C S f F a k st else EvC C S f F b k st := by
  simp only [EvC, zK, h]
  cases t <;> rfl
theorem w_true {x : Operand} (h : zD C (get st.tmps) x = .val (.bool true)) (k' : EvC C S f F a k st = r) : EvC C S f F (.cond x a b) k st = r := by rw [w_cond h]; exact k'
theorem w_false {x : Operand} (h : zD C (get st.tmps) x = .val (.bool false)) (k' : EvC C S f F b k st = r) : EvC C S f F (.cond x a b) k st = r := by rw [w_cond h]; exact k'
theorem w_loop {st1 : St} {ks : List Nat} (hk : C.keep f (firstRegion a) = ks) (h : gc ks st = some st1) (k' : EvL C S f F a k st1 = r) : EvC C S f F (.loop a) k st = r := by
  simp only [EvC, zK, hk, h]; exact k'
theorem w_again {st1 : St} {ks : List Nat} (hk : C.keep f (firstRegion a) = ks) (h : gc ks st = some st1) (k' : EvL C S f F a k st1 = r) : contK C S f F (.loop a :: k) .normal st = r := by
  simp only [contK, hk, h]; exact k'
theorem w_loop_ret : contK C S f F (.loop a :: k) .ret st = contK C S f F k .ret st := rfl
theorem w_loop_exit {id : Nat} : contK C S f F (.loop a :: k) (.exit id) st = contK C S f F k (.exit id) st := rfl
theorem w_round {f : FuncId} {F : Exit → St → Option β} {x : β} (h : EvC C (lim C) f F a (.loop a :: k) st = some x) : EvL C (lim C) f F a k st = some x := by
  simp only [EvC] at h
  have key : ∀ q : Exit × St, runLoop C (lim C) f a st = some q → contK C (lim C) f F k q.1 q.2 = some x → EvL C (lim C) f F a k st = some x := by
    intro q hq hk
    simp only [EvL, loop_of hq]; exact hk
  cases hev : zK C (lim C) f a st with
  | none => rw [hev] at h; cases h
  | some p =>
    obtain ⟨e, st1⟩ := p
    rw [hev] at h
    cases e with
    | normal =>
      simp only [contK] at h
      split at h
      · rename_i st2 hg
        split at h
        · rename_i e2 st3 hl
          exact key (e2, st3) (by simp only [runLoop, hev, hg, hl]) h
        · cases h
      · cases h
    | _ => exact key (_, st1) (by simp only [runLoop, hev]) h
theorem w_code {c : Code} : contK C S f F (.code c :: k) .normal st = EvC C S f F c k st := rfl
theorem w_code_ret {c : Code} : contK C S f F (.code c :: k) .ret st = contK C S f F k .ret st := rfl
theorem w_code_exit {c : Code} {id : Nat} : contK C S f F (.code c :: k) (.exit id) st = contK C S f F k (.exit id) st := rfl
theorem w_inblock {id : Nat} : contK C S f F (.block id :: k) .normal st = contK C S f F k .normal st := rfl
theorem w_block_ret {id : Nat} : contK C S f F (.block id :: k) .ret st = contK C S f F k .ret st := rfl
theorem w_block_exit {id id' : Nat} : contK C S f F (.block id :: k) (.exit id') st = if id' = id then contK C S f F k .normal st else contK C S f F k (.exit id') st := rfl
theorem w_inscope : contK C S f F (.scope :: k) .normal st = contK C S f F k .normal st := rfl
theorem w_scope_ret : contK C S f F (.scope :: k) .ret st = contK C S f F k .ret st := rfl
theorem w_scope_exit {id : Nat} : contK C S f F (.scope :: k) (.exit id) st = contK C S f F k (.exit id) st := rfl
theorem w_end {e : Exit} : contK C S f F [] e st = F e st := rfl

/-! ### operations -/
variable {ops : Array Oper} {l : List Oper} {o : Oper} {n nxt pin : Nat} {tms tm : List (Nat × D)} {objs ob : List (Nat × Ob)} {d : D} {wr : List Upd} {rd : List Nat} {nx : Nat} {tr : Trace}
theorem u_nil : EvU C S f F ops [] k st = contK C S f F k .normal st := rfl
theorem u_run (hw : wantD ops (get tms) o.guard = some true) (ho : evOp C S (get tms) objs nxt o = some ⟨d, wr, rd, nx⟩) (ht : putT n tms o.dst d = tm) (hb : applyUpd wr objs = ob)
    (h : EvU C S f F ops l k ⟨n, tm, ob, nx, pin⟩ = r) : EvU C S f F ops (o :: l) k ⟨n, tms, objs, nxt, pin⟩ = r := by
  subst ht hb
  simp only [EvU, evOps, hw, ho] at h ⊢
  exact h
theorem u_skip (hw : wantD ops (get tms) o.guard = some false) (ht : putT n tms o.dst (.tup []) = tm) (h : EvU C S f F ops l k ⟨n, tm, objs, nxt, pin⟩ = r) : EvU C S f F ops (o :: l) k ⟨n, tms, objs, nxt, pin⟩ = r := by
  subst ht
  simp only [EvU, evOps, hw] at h ⊢
  exact h
/-- An operation that yields a Bool: the two cases. -/
theorem u_bool {t : Bool} (hw : wantD ops (get tms) o.guard = some true) (ho : evOp C S (get tms) objs nxt o = some ⟨.val (.bool t), wr, rd, nx⟩) (hb : applyUpd wr objs = ob)
    (h1 : t = true → EvU C S f F ops l k ⟨n, putT n tms o.dst (B true), ob, nx, pin⟩ = r) (h0 : t = false → EvU C S f F ops l k ⟨n, putT n tms o.dst (B false), ob, nx, pin⟩ = r) : EvU C S f F ops (o :: l) k ⟨n, tms, objs, nxt, pin⟩ = r := by
  cases t with
  | true => exact u_run hw ho rfl hb (h1 rfl)
  | false => exact u_run hw ho rfl hb (h0 rfl)
theorem d_nil (hr : regOK ops = true) (ht : traceOK ops tr.reverse = true) (h : contK C S f F k .normal st = r) : EvD C S f F ops [] tr k st = r := by
  simp only [EvD, evOpsT, List.append_nil, hr, ht, Bool.and_self, if_true]; exact h
theorem d_run {ws : List Nat} (hw : wantD ops (get tms) o.guard = some true) (ho : evOp C S (get tms) objs nxt o = some ⟨d, wr, rd, nx⟩) (ht : putT n tms o.dst d = tm) (hb : applyUpd wr objs = ob) (hws : wr.map (·.1) = ws)
    (h : EvD C S f F ops l ((rd, ws) :: tr) k ⟨n, tm, ob, nx, pin⟩ = r) : EvD C S f F ops (o :: l) tr k ⟨n, tms, objs, nxt, pin⟩ = r := by
  subst ht hb hws
  simp only [EvD, evOpsT, hw, ho] at h ⊢
  rw [← h]
  cases evOpsT C S ops l ⟨n, putT n tms o.dst d, applyUpd wr objs, nx, pin⟩ with
  | none => rfl
  | some p => obtain ⟨st', tr'⟩ := p; simp
theorem d_skip (hw : wantD ops (get tms) o.guard = some false) (ht : putT n tms o.dst (.tup []) = tm) (h : EvD C S f F ops l (([], []) :: tr) k ⟨n, tm, objs, nxt, pin⟩ = r) : EvD C S f F ops (o :: l) tr k ⟨n, tms, objs, nxt, pin⟩ = r := by
  subst ht
  simp only [EvD, evOpsT, hw] at h ⊢
  rw [← h]
  cases evOpsT C S ops l ⟨n, putT n tms o.dst (.tup []), objs, nxt, pin⟩ with
  | none => rfl
  | some p => obtain ⟨st', tr'⟩ := p; simp
theorem d_bool {t : Bool} {ws : List Nat} (hw : wantD ops (get tms) o.guard = some true) (ho : evOp C S (get tms) objs nxt o = some ⟨.val (.bool t), wr, rd, nx⟩) (hb : applyUpd wr objs = ob) (hws : wr.map (·.1) = ws)
    (h1 : t = true → EvD C S f F ops l ((rd, ws) :: tr) k ⟨n, putT n tms o.dst (B true), ob, nx, pin⟩ = r) (h0 : t = false → EvD C S f F ops l ((rd, ws) :: tr) k ⟨n, putT n tms o.dst (B false), ob, nx, pin⟩ = r) : EvD C S f F ops (o :: l) tr k ⟨n, tms, objs, nxt, pin⟩ = r := by
  cases t with
  | true => exact d_run hw ho rfl hb hws (h1 rfl)
  | false => exact d_run hw ho rfl hb hws (h0 rfl)

/-- What is made of a value: it is written, and on. -/
def Put (n : Nat) (tms : List (Nat × D)) (dst : Option Tmp) (d : D) (G : List (Nat × D) → Prop) : Prop := G (putT n tms dst d)
variable {dst : Option Tmp} {G : List (Nat × D) → Prop} {tm1 tm0 : List (Nat × D)}
theorem p_any (ht : putT n tms dst d = tm) (h : G tm) : Put n tms dst d G := by subst ht; exact h
theorem p_bool {t : Bool} (ht1 : putT n tms dst (B true) = tm1) (ht0 : putT n tms dst (B false) = tm0) (h1 : t = true → G tm1) (h0 : t = false → G tm0) : Put n tms dst (.val (.bool t)) G := by
  subst ht1 ht0
  cases t with
  | true => exact h1 rfl
  | false => exact h0 rfl
theorem u_step (hw : wantD ops (get tms) o.guard = some true) (ho : evOp C S (get tms) objs nxt o = some ⟨d, wr, rd, nx⟩) (hb : applyUpd wr objs = ob)
    (h : Put n tms o.dst d fun tm => EvU C S f F ops l k ⟨n, tm, ob, nx, pin⟩ = r) : EvU C S f F ops (o :: l) k ⟨n, tms, objs, nxt, pin⟩ = r := u_run hw ho rfl hb h
theorem d_step {ws : List Nat} (hw : wantD ops (get tms) o.guard = some true) (ho : evOp C S (get tms) objs nxt o = some ⟨d, wr, rd, nx⟩) (hb : applyUpd wr objs = ob) (hws : wr.map (·.1) = ws)
    (h : Put n tms o.dst d fun tm => EvD C S f F ops l ((rd, ws) :: tr) k ⟨n, tm, ob, nx, pin⟩ = r) : EvD C S f F ops (o :: l) tr k ⟨n, tms, objs, nxt, pin⟩ = r := d_run hw ho rfl hb hws h

theorem u_step2 {ws : List Nat} (hw : wantD ops (get tms) o.guard = some true) (ho : evOp C S (get tms) objs nxt o = some ⟨d, wr, rd, nx⟩) (hb : applyUpd wr objs = ob) (_ : wr.map (·.1) = ws)
    (h : Put n tms o.dst d fun tm => EvU C S f F ops l k ⟨n, tm, ob, nx, pin⟩ = r) : EvU C S f F ops (o :: l) k ⟨n, tms, objs, nxt, pin⟩ = r := u_run hw ho rfl hb h

theorem ids_val {f : Nat} {v : Value} : idsD (f + 1) (.val v) = some [] := rfl
theorem ids_sl {f : Nat} {nl : Bool} {els : List D} {sz : Nat} {cap : Option Nat} : idsD (f + 1) (.sl nl els sz cap) = some [] := rfl
theorem ids_ptr {f : Nat} {d : D} : idsD (f + 1) (.ptr d) = some [] := rfl
theorem ids_lref {f o i sz sub : Nat} : idsD (f + 1) (.lref o i sz sub) = some [o] := rfl
theorem ids_lsl {f o off len sz : Nat} {cap : Option Nat} : idsD (f + 1) (.lsl o off len sz cap) = some [o] := rfl
theorem ids_agg {f : Nat} {cs : List D} : idsD (f + 1) (.agg cs) = idsL (idsD f) cs := rfl
theorem ids_tup {f : Nat} {cs : List D} : idsD (f + 1) (.tup cs) = idsL (idsD f) cs := rfl
theorem ids_unk {f : Nat} : idsD (f + 1) .unk = some [] := rfl
theorem ren_val {ρ : Nat → Option Nat} {f : Nat} {v : Value} : renD ρ (f + 1) (.val v) = .val v := rfl
theorem ren_sl {ρ : Nat → Option Nat} {f : Nat} {nl : Bool} {els : List D} {sz : Nat} {cap : Option Nat} : renD ρ (f + 1) (.sl nl els sz cap) = .sl nl els sz cap := rfl
theorem ren_ptr {ρ : Nat → Option Nat} {f : Nat} {d : D} : renD ρ (f + 1) (.ptr d) = .ptr d := rfl
theorem ren_lref {ρ : Nat → Option Nat} {f o i sz sub : Nat} : renD ρ (f + 1) (.lref o i sz sub) = match ρ o with | some o' => .lref o' i sz sub | none => .unk := rfl
theorem ren_lsl {ρ : Nat → Option Nat} {f o off len sz : Nat} {cap : Option Nat} : renD ρ (f + 1) (.lsl o off len sz cap) = match ρ o with | some o' => .lsl o' off len sz cap | none => .unk := rfl
theorem ren_agg {ρ : Nat → Option Nat} {f : Nat} {cs : List D} : renD ρ (f + 1) (.agg cs) = .agg (cs.map (renD ρ f)) := rfl
theorem ren_tup {ρ : Nat → Option Nat} {f : Nat} {cs : List D} : renD ρ (f + 1) (.tup cs) = .tup (cs.map (renD ρ f)) := rfl
theorem ren_unk {ρ : Nat → Option Nat} {f : Nat} : renD ρ (f + 1) .unk = .unk := rfl
theorem on_int {k : IntKind} {n : Int} : D.one (.val (.int k n)) = true := rfl
theorem oc_int {k : IntKind} {n : Int} : D.okCells (.val (.int k n)) = true := rfl
theorem ce_int {k : IntKind} {n : Int} : D.cells (.val (.int k n)) = [.val (.int k n)] := rfl
theorem on_bool {b : Bool} : D.one (.val (.bool b)) = true := rfl
theorem oc_bool {b : Bool} : D.okCells (.val (.bool b)) = true := rfl
theorem ce_bool {b : Bool} : D.cells (.val (.bool b)) = [.val (.bool b)] := rfl
theorem on_str {b : ByteArray} : D.one (.val (.string b)) = true := rfl
theorem oc_str {b : ByteArray} : D.okCells (.val (.string b)) = true := rfl
theorem ce_str {b : ByteArray} : D.cells (.val (.string b)) = [.val (.string b)] := rfl
theorem on_vptr {p : Option Addr} : D.one (.val (.pointer p)) = true := rfl
theorem oc_vptr {p : Option Addr} : D.okCells (.val (.pointer p)) = true := rfl
theorem ce_vptr {p : Option Addr} : D.cells (.val (.pointer p)) = [.val (.pointer p)] := rfl
theorem on_vnf  : D.one (.val .nilFunc) = true := rfl
theorem oc_vnf  : D.okCells (.val .nilFunc) = true := rfl
theorem ce_vnf  : D.cells (.val .nilFunc) = [.val .nilFunc] := rfl
theorem on_vni  : D.one (.val .nilIface) = true := rfl
theorem oc_vni  : D.okCells (.val .nilIface) = true := rfl
theorem ce_vni  : D.cells (.val .nilIface) = [.val .nilIface] := rfl
theorem on_sl {nl : Bool} {els : List D} {sz : Nat} {cap : Option Nat} : D.one (.sl nl els sz cap) = true := rfl
theorem oc_sl {nl : Bool} {els : List D} {sz : Nat} {cap : Option Nat} : D.okCells (.sl nl els sz cap) = true := rfl
theorem ce_sl {nl : Bool} {els : List D} {sz : Nat} {cap : Option Nat} : D.cells (.sl nl els sz cap) = [.sl nl els sz cap] := rfl
theorem on_ptr {d : D} : D.one (.ptr d) = true := rfl
theorem oc_ptr {d : D} : D.okCells (.ptr d) = true := rfl
theorem ce_ptr {d : D} : D.cells (.ptr d) = [.ptr d] := rfl
theorem on_lref {o i sz sub : Nat} : D.one (.lref o i sz sub) = true := rfl
theorem oc_lref {o i sz sub : Nat} : D.okCells (.lref o i sz sub) = true := rfl
theorem ce_lref {o i sz sub : Nat} : D.cells (.lref o i sz sub) = [.lref o i sz sub] := rfl
theorem on_lsl {o off len sz : Nat} {cap : Option Nat} : D.one (.lsl o off len sz cap) = true := rfl
theorem oc_lsl {o off len sz : Nat} {cap : Option Nat} : D.okCells (.lsl o off len sz cap) = true := rfl
theorem ce_lsl {o off len sz : Nat} {cap : Option Nat} : D.cells (.lsl o off len sz cap) = [.lsl o off len sz cap] := rfl
theorem on_fn {f : Fn} {a b : List D} : D.one (.fn f a b) = true := rfl
theorem oc_fn {f : Fn} {a b : List D} : D.okCells (.fn f a b) = true := rfl
theorem ce_fn {f : Fn} {a b : List D} : D.cells (.fn f a b) = [.fn f a b] := rfl
theorem on_iface {t : TypeId} {d : D} : D.one (.iface t d) = true := rfl
theorem oc_iface {t : TypeId} {d : D} : D.okCells (.iface t d) = true := rfl
theorem ce_iface {t : TypeId} {d : D} : D.cells (.iface t d) = [.iface t d] := rfl
theorem on_agg {cs : List D} : D.one (.agg cs) = false := rfl
theorem oc_agg {cs : List D} : D.okCells (.agg cs) = allOne cs := rfl
theorem ce_agg {cs : List D} : D.cells (.agg cs) = cs := rfl
section
variable {gO : Nat → Option Ob}
theorem dd_val {v : Value} : deepD gO (.val v) = .val v := rfl
theorem dd_sl {nl : Bool} {els : List D} {sz : Nat} {cap : Option Nat} : deepD gO (.sl nl els sz cap) = .sl nl els sz cap := rfl
theorem dd_ptr {d : D} : deepD gO (.ptr d) = .ptr d := rfl
theorem dd_lsl {o off len sz : Nat} {cap : Option Nat} : deepD gO (.lsl o off len sz cap) = .lsl o off len sz cap := rfl
theorem dd_lref {o i sz sub : Nat} : deepD gO (.lref o i sz sub) = match snap gO 16 (.lref o i sz sub) with | some (e, _) => e | none => .lref o i sz sub := rfl
theorem di_val {v : Value} : deepI gO (.val v) = [] := rfl
theorem di_sl {nl : Bool} {els : List D} {sz : Nat} {cap : Option Nat} : deepI gO (.sl nl els sz cap) = [] := rfl
theorem di_ptr {d : D} : deepI gO (.ptr d) = [] := rfl
theorem di_lsl {o off len sz : Nat} {cap : Option Nat} : deepI gO (.lsl o off len sz cap) = [] := rfl
theorem di_lref {o i sz sub : Nat} : deepI gO (.lref o i sz sub) = match snap gO 16 (.lref o i sz sub) with | some (_, r) => r | none => [] := rfl
end
def frz (b : Bool) (g : Nat → Option Ob) (ids : List Nat) : List Upd := if b then [] else freeze g ids
theorem frz_nil {b : Bool} {g : Nat → Option Ob} : frz b g [] = [] := by cases b <;> rfl
theorem frz_true {g : Nat → Option Ob} {ids : List Nat} : frz true g ids = [] := rfl
theorem frz_false {g : Nat → Option Ob} {ids : List Nat} : frz false g ids = freeze g ids := rfl
theorem callPure_eq {S : Sm} {objs : List (Nat × Ob)} {nxt : Nat} {K : FuncId} {args : List D} : zl S objs nxt K args = match snapAll (snap (zE objs) fuelD) args with
  | some (args', ids) => match S.pure K args' with
    | some r => some ⟨r, frz (flat fuelD r) (zE objs) ids, ids, nxt⟩
    | none => none
  | none => none := rfl
theorem fl_val {f : Nat} {v : Value} : flat (f + 1) (.val v) = true := rfl
theorem fl_nil {f : Nat} {els : List D} {sz : Nat} {cap : Option Nat} : flat (f + 1) (.sl true els sz cap) = true := rfl
theorem fl_sl {f : Nat} {els : List D} {sz : Nat} {cap : Option Nat} : flat (f + 1) (.sl false els sz cap) = false := rfl
theorem fl_agg {f : Nat} {cs : List D} : flat (f + 1) (.agg cs) = flatL (flat f) cs := rfl
theorem fl_tup {f : Nat} {cs : List D} : flat (f + 1) (.tup cs) = flatL (flat f) cs := rfl
theorem fl_ptr {f : Nat} {d : D} : flat (f + 1) (.ptr d) = false := rfl
theorem fl_fn {f : Nat} {g : Fn} {a b : List D} : flat (f + 1) (.fn g a b) = false := rfl
theorem fl_iface {f : Nat} {t : TypeId} {d : D} : flat (f + 1) (.iface t d) = false := rfl
section
variable {gO : Nat → Option Ob} {f : Nat}
theorem sn_val {v : Value} : snap gO (f + 1) (.val v) = some (.val v, []) := rfl
theorem sn_sl {nl : Bool} {els : List D} {sz : Nat} {cap : Option Nat} : snap gO (f + 1) (.sl nl els sz cap) = some (.sl nl els sz none, []) := rfl
theorem sn_ptr {d : D} : snap gO (f + 1) (.ptr d) = some (.ptr d, []) := rfl
theorem sn_agg {cs : List D} : snap gO (f + 1) (.agg cs) = match snapAll (snap gO f) cs with | some (cs, r) => some (.agg cs, r) | none => none := rfl
theorem sn_tup {cs : List D} : snap gO (f + 1) (.tup cs) = match snapAll (snap gO f) cs with | some (cs, r) => some (.tup cs, r) | none => none := rfl
theorem sn_fn {g : Fn} {a b : List D} : snap gO (f + 1) (.fn g a b) = match snapAll (snap gO f) a, snapAll (snap gO f) b with | some (a, r), some (b, r') => some (.fn g a b, r ++ r') | _, _ => none := rfl
theorem sn_lref {o i sz : Nat} : snap gO (f + 1) (.lref o i sz 0) = match gO o with
      | some ob => if ob.sz = sz then match ob.els[i]? with
        | some e => match snap gO f e with | some (e, r) => some (.ptr e, o :: r) | none => none
        | none => none
        else none
      | none => none := rfl
theorem sn_lsl {o off len sz : Nat} {cap : Option Nat} : snap gO (f + 1) (.lsl o off len sz cap) = match gO o with
      | some ob => if ob.sz = sz && decide (off + len ≤ ob.els.length) then
        match snapAll (snap gO f) ((ob.els.drop off).take len) with | some (es, r) => some (.sl false es sz none, o :: r) | none => none
        else none
      | none => none := rfl
end
/-- A part of code. -/
def subC : List Nat → Code → Code
  | [], c => c
  | i :: p, c => match c with
    | .seq a b => match i with | 0 => subC p a | _ => subC p b
    | .cond _ a b => match i with | 0 => subC p a | _ => subC p b
    | .block _ a => subC p a
    | .loop a => subC p a
    | .scope a => subC p a
    | .rangeFunc _ _ a b => match i with | 0 => subC p a | _ => subC p b
    | c => c
def bodyC (fn : Func) : Code := match fn.body with | some c => c | none => .skip
/-! ### functions -/
/-- What is made of a function's end. -/
def finF (C : Cfg) (fn : Func) (e : Exit) (st : St) : Option (D × List (Nat × Ob) × Nat) := match e with
  | .normal => match resAll C st fn.results.toList with | some ds => some (tupOf ds, st.objs, st.nxt) | none => none
  | .ret => match resAll C st fn.results.toList with | some ds => some (tupOf ds, st.objs, st.nxt) | none => none
  | _ => none
def finP (C : Cfg) (fn : Func) (e : Exit) (st : St) : Option D := match finF C fn e st with
  | some (d, objs, _) => match snap (zE objs) fuelD d with
    | some (d, _) => some d
    | none => none
  | none => none
theorem w_fn {K : FuncId} {args : List D} {nxt : Nat} {fn : Func} {objs : List (Nat × Ob)} {r : Option (D × List (Nat × Ob) × Nat)} (hf : C.fn K = some fn) (hb : fn.body = some c) (h : EvC C S K (finF C fn) c [] ⟨max fn.ntmps args.length, number 0 args, objs, nxt, nxt⟩ = r) :
    runFn C S K args objs nxt = r := by
  rw [← h]
  simp only [runFn, hf, hb, EvC]
  cases zK C S K c ⟨max fn.ntmps args.length, number 0 args, objs, nxt, nxt⟩ with
  | none => rfl
  | some p => obtain ⟨e, st'⟩ := p; cases e <;> rfl
theorem w_pure {K : FuncId} {args : List D} {fn : Func} {d : D} (hx : C.ext K = none) (hf : C.fn K = some fn) (hb : fn.body = some c) {n : Nat} (hn : max fn.ntmps args.length = n) (h : EvC C (lim C) K (finP C fn) c [] ⟨n, number 0 args, [], 0, 0⟩ = some d) :
    (lim C).pure K args = some d := by
  subst hn
  refine pure_of ?_
  rw [← h]
  simp only [runPure, hx]
  rw [w_fn (r := EvC C (lim C) K (finF C fn) c [] ⟨max fn.ntmps args.length, number 0 args, [], 0, 0⟩) hf hb rfl]
  simp only [EvC]
  cases zK C (lim C) K c ⟨max fn.ntmps args.length, number 0 args, [], 0, 0⟩ with
  | none => rfl
  | some p => obtain ⟨e, st'⟩ := p; rfl
theorem w_inl {K : FuncId} {args : List D} {nxt : Nat} {fn : Func} {objs : List (Nat × Ob)} {q : D × List (Nat × Ob) × Nat} (hx : C.xinl K = none) (hf : C.fn K = some fn) (hb : fn.body = some c) {n : Nat} (hn : max fn.ntmps args.length = n) (h : EvC C (lim C) K (finF C fn) c [] ⟨n, number 0 args, objs, nxt, nxt⟩ = some q) :
    (lim C).inl K args objs nxt = some q := by
  subst hn
  refine inl_of ?_
  simp only [runInl, hx]
  exact w_fn hf hb h
end
set_option linter.defProp false
/-- Several equations in one. -/
def bO := (And.intro (And.intro (And.intro (And.intro (And.intro @on_int @oc_int) (And.intro @ce_int @on_bool)) (And.intro (And.intro @oc_bool @ce_bool) (And.intro @on_str (And.intro @oc_str @ce_str)))) (And.intro (And.intro (And.intro @on_vptr @oc_vptr) (And.intro @ce_vptr (And.intro @on_vnf @oc_vnf))) (And.intro (And.intro @ce_vnf @on_vni) (And.intro @oc_vni (And.intro @ce_vni @on_sl))))) (And.intro (And.intro (And.intro (And.intro @oc_sl @ce_sl) (And.intro @on_ptr (And.intro @oc_ptr @ce_ptr))) (And.intro (And.intro @on_lref @oc_lref) (And.intro @ce_lref (And.intro @on_lsl @oc_lsl)))) (And.intro (And.intro (And.intro @ce_lsl @on_fn) (And.intro @oc_fn (And.intro @ce_fn @on_iface))) (And.intro (And.intro @oc_iface @ce_iface) (And.intro @on_agg (And.intro @oc_agg @ce_agg))))))
/-- Several equations in one. -/
def bS := (And.intro (And.intro (And.intro (And.intro @sn_val @sn_sl) (And.intro @sn_ptr (And.intro @sn_agg @sn_tup))) (And.intro (And.intro @sn_fn @sn_lref) (And.intro @sn_lsl (And.intro @callPure_eq @frz_nil)))) (And.intro (And.intro (And.intro @frz_true @frz_false) (And.intro @fl_val (And.intro @fl_nil @fl_sl))) (And.intro (And.intro @fl_agg @fl_tup) (And.intro @fl_ptr (And.intro @fl_fn @fl_iface)))))
/-- Several equations in one. -/
def bI := (And.intro (And.intro (And.intro (And.intro @ids_val @ids_sl) (And.intro @ids_ptr @ids_lref)) (And.intro (And.intro @ids_lsl @ids_agg) (And.intro @ids_tup @ids_unk))) (And.intro (And.intro (And.intro @ren_val @ren_sl) (And.intro @ren_ptr @ren_lref)) (And.intro (And.intro @ren_lsl @ren_agg) (And.intro @ren_tup @ren_unk))))
/-- Several equations in one. -/
def bD := (And.intro (And.intro (And.intro @dd_val @dd_sl) (And.intro @dd_ptr (And.intro @dd_lsl @dd_lref))) (And.intro (And.intro @di_val @di_sl) (And.intro @di_ptr (And.intro @di_lsl @di_lref))))
/-- Several equations in one. -/
def bW := (And.intro (And.intro (And.intro (And.intro @w_skip @w_label) (And.intro @w_ret (And.intro @w_exit @w_seq))) (And.intro (And.intro @w_block (And.intro @w_scope @w_region)) (And.intro @w_drawn (And.intro @w_code @w_code_ret)))) (And.intro (And.intro (And.intro @w_code_exit @w_inblock) (And.intro @w_block_ret (And.intro @w_block_exit @w_inscope))) (And.intro (And.intro @w_scope_ret (And.intro @w_scope_exit @w_loop_ret)) (And.intro @w_loop_exit (And.intro @w_end @u_nil)))))
/-- The size of the elements of a slice that may be nil. -/
def zs (b : Bool) (n : Nat) : Nat := match b with | true => 0 | false => n
theorem zs_false {n : Nat} : zs false n = n := rfl
theorem zs_true {n : Nat} : zs true n = 0 := rfl
attribute [go_sem] zs_true clearD evOp zD get eqb_dec ltb_dec decide_true decide_false cond_true cond_false evBox evAlloc zeroOk zeroD allOne Bool.and_true Bool.true_and Bool.and_self Bool.and_false Bool.false_and Bool.or_false Bool.or_true Bool.false_or Bool.true_or Bool.not_true Bool.not_false if_true newOb List.length_cons List.length_nil just justO evFieldAddr evField fieldOf List.getElem?_cons_zero List.getElem?_cons_succ Nat.zero_add Nat.add_zero Nat.one_ne_zero evLoad evStore setPart elAt zE Ty.isAgg binD binVal binNil nilKind neqOf kindCode binInt isConstO ofV ofCell evPick Bool.false_eq_true if_false List.take List.drop List.map_cons List.map_nil List.append_nil List.nil_append List.cons_append List.set unD callD snapAll fuelD flatL freeze builtinD lenT evIndexAddr ixSlice ixArr intOfD Int.toNat_natCast Int.natCast_nonneg Int.toNat_zero Int.le_refl Nat.zero_mul Nat.mul_zero convD evExtract buildD fillAgg fillCells placesOf argP eqD eqParts onVals eqVal isAggD Nat.le_refl Array.toList_map List.size_toArray List.getElem?_toArray Nat.sub_zero Nat.mul_one evIndex ixVal bO bS putT ins applyUpd oins odel finP finF resAll resOf tupOf evBuildSlice sliceElem fillEls List.replicate appendD appendE elemsD allOk appSl appLsl newRow isSl List.isEmpty evSlice sliceOf slSlice lslSlice optBound boundD capBehind Option.map_some Option.map_none Option.isNone Option.isSome Option.getD_none Option.getD_some rdOf gc gc0 gcWith rootsT keepT rootsO ids_val ids_sl ids_ptr ids_lref ids_lsl ids_agg ids_tup ids_unk idsL liveFrom_nil liveFrom_succ memN fromPin renT ren_val ren_sl ren_ptr ren_lref ren_lsl ren_agg ren_tup ren_unk renN placeOf pinO renO renOb Nat.not_lt_zero Nat.lt_irrefl deepen deepT deepTI deepO deepOI deepA deepAI deepEl deepElI catI
attribute [irreducible] EvC EvU EvD EvL contK Put
end Go.VS
/-
  VS, part W2: rows of elements that hold no names; slices that a loop appends to. (A text of this claim's own; nothing of it is trusted.)
-/
namespace Go.VS
open Go

/-- Elements of a size that lead to none of the call's own objects. -/
structure EncOK {α : Type} (sz : Nat) (f : α → D) : Prop where
  snap : ∀ g n x, snap g (n + 2) (f x) = some (f x, [])
  ids : ∀ n x, idsD (n + 2) (f x) = some []
  ren : ∀ ρ n x, renD ρ (n + 2) (f x) = f x
  ok : ∀ x, (f x).okCells = true ∧ (f x).cells.length = sz
section
variable {α : Type} {sz : Nat} {f : α → D} (h : EncOK sz f)
include h
theorem EncOK.snapAll (g : Nat → Option Ob) (n : Nat) (l : List α) : Go.VS.snapAll (Go.VS.snap g (n + 2)) (l.map f) = some (l.map f, []) := by
  induction l with
  | nil => rfl
  | cons x l ih => simp only [List.map_cons, Go.VS.snapAll, ih, h.snap]; rfl
theorem EncOK.idsL (n : Nat) (l : List α) : Go.VS.idsL (idsD (n + 2)) (l.map f) = some [] := by
  induction l with
  | nil => rfl
  | cons x l ih => simp only [List.map_cons, Go.VS.idsL, ih, h.ids]; rfl
theorem EncOK.idsL_app (n : Nat) (l : List α) (b : List D) : Go.VS.idsL (idsD (n + 2)) (l.map f ++ b) = Go.VS.idsL (idsD (n + 2)) b := by
  induction l with
  | nil => rfl
  | cons x l ih =>
    simp only [List.map_cons, List.cons_append, Go.VS.idsL, ih, h.ids]
    cases Go.VS.idsL (idsD (n + 2)) b <;> rfl
theorem EncOK.renL (ρ : Nat → Option Nat) (n : Nat) (l : List α) : (l.map f).map (renD ρ (n + 2)) = l.map f := by
  rw [List.map_map]; exact List.map_congr_left fun x _ => h.ren ρ n x
theorem EncOK.allOk (l : List α) : Go.VS.allOk sz (l.map f) = true := by
  induction l with
  | nil => rfl
  | cons x l ih => simp only [List.map_cons, Go.VS.allOk, ih, (h.ok x).1, (h.ok x).2, decide_true, Bool.and_self]
end
theorem allOk_append {sz : Nat} : ∀ {a b : List D}, allOk sz (a ++ b) = (allOk sz a && allOk sz b)
  | [], b => by simp [allOk]
  | d :: a, b => by simp [allOk, allOk_append (a := a), Bool.and_assoc]

/-- A slice that began as nil and was appended to: as a value, among the objects, and the next free name. -/
def gD (k sz : Nat) {α : Type} (l : List α) : D := match l with | [] => .sl true [] 0 none | _ :: r => .lsl k 0 (r.length + 1) sz none
def gO (k sz : Nat) {α : Type} (f : α → D) (l : List α) : List (Nat × Ob) := match l with | [] => [] | x :: r => [(k, ⟨(x :: r).map f, sz, false⟩)]
def gN (k : Nat) {α : Type} (l : List α) : Nat := match l with | [] => k | _ => k + 1
/-- .. and as a deep value. -/
def gS (sz : Nat) {α : Type} (f : α → D) (l : List α) : D := match l with | [] => .sl true [] 0 none | x :: r => .sl false ((x :: r).map f) sz none
theorem take_all {α β : Type} {f : α → β} (r : List α) : List.take r.length (List.map f r) = List.map f r := by rw [List.take_of_length_le]; simp
theorem take_snoc' {α β : Type} {f : α → β} (r : List α) (x : β) : List.take (r.length + 1) (List.map f r ++ [x]) = List.map f r ++ [x] := by rw [List.take_of_length_le]; simp
section
variable {t : Ty} {sub : Nat}
theorem pd_agg {cs : List D} : partD t sub (.agg cs) = if t.isAgg then (if sub + t.size ≤ cs.length then some (.agg ((cs.drop sub).take t.size)) else none) else match cs[sub]? with | some c => if c.one then some c else none | none => none := rfl
theorem pd_val {v : Value} : partD t sub (.val v) = if t.isAgg then none else if sub = 0 then (if D.one (.val v) then some (.val v) else none) else none := rfl
theorem pd_sl {nl : Bool} {els : List D} {sz : Nat} {cap : Option Nat} : partD t sub (.sl nl els sz cap) = if t.isAgg then none else if sub = 0 then (if D.one (.sl nl els sz cap) then some (.sl nl els sz cap) else none) else none := rfl
theorem pd_ptr {e : D} : partD t sub (.ptr e) = if t.isAgg then none else if sub = 0 then (if D.one (.ptr e) then some (.ptr e) else none) else none := rfl
theorem pd_lref {o i sz sub' : Nat} : partD t sub (.lref o i sz sub') = if t.isAgg then none else if sub = 0 then (if D.one (.lref o i sz sub') then some (.lref o i sz sub') else none) else none := rfl
theorem pd_lsl {o off len sz : Nat} {cap : Option Nat} : partD t sub (.lsl o off len sz cap) = if t.isAgg then none else if sub = 0 then (if D.one (.lsl o off len sz cap) then some (.lsl o off len sz cap) else none) else none := rfl
theorem pd_fn {f : Fn} {a b : List D} : partD t sub (.fn f a b) = if t.isAgg then none else if sub = 0 then (if D.one (.fn f a b) then some (.fn f a b) else none) else none := rfl
theorem pd_iface {t' : TypeId} {e : D} : partD t sub (.iface t' e) = if t.isAgg then none else if sub = 0 then (if D.one (.iface t' e) then some (.iface t' e) else none) else none := rfl
end
theorem ids_fn {f : Nat} {g : Fn} {a b : List D} : idsD (f + 1) (.fn g a b) = match idsL (idsD f) a, idsL (idsD f) b with | some a, some b => some (a ++ b) | _, _ => none := rfl
theorem ren_fn {ρ : Nat → Option Nat} {f : Nat} {g : Fn} {a b : List D} : renD ρ (f + 1) (.fn g a b) = .fn g (a.map (renD ρ f)) (b.map (renD ρ f)) := rfl
theorem ids_iface {f : Nat} {t : TypeId} {d : D} : idsD (f + 1) (.iface t d) = idsD f d := rfl
theorem ren_iface {ρ : Nat → Option Nat} {f : Nat} {t : TypeId} {d : D} : renD ρ (f + 1) (.iface t d) = .iface t (renD ρ f d) := rfl
set_option linter.defProp false
/-- Several equations in one. -/
def bP := (And.intro (And.intro (And.intro @pd_agg @pd_val) (And.intro @pd_sl @pd_ptr)) (And.intro (And.intro @pd_lref @pd_lsl) (And.intro @pd_fn @pd_iface)))
def bI2 := (And.intro (And.intro @ids_fn @ren_fn) (And.intro @ids_iface @ren_iface))
end Go.VS
namespace Go.VS
open Go Go.Proofs
noncomputable def cfg : Cfg := { P := Tryz.prog, fn := zx.find, ty := tyTab.find, keep := find2 keepTab, inl := fun K => memN K [66, 85, 86, 94, 104, 109, 110, 113, 114, 115, 116, 117, 118, 119, 121, 122, 125, 126, 127, 128, 129, 130, 131, 132, 133, 135, 136, 137, 138, 139, 140, 141, 142], ext := fun _ => none, xinl := fun _ => none, glob := fun _ => none, eqok := fun t => (eqTab.find t).isSome }
theorem cfg_fn : cfg.fn = zx.find := rfl
theorem cfg_ty : cfg.ty = tyTab.find := rfl
theorem cfg_eqok (t : TypeId) : cfg.eqok t = (eqTab.find t).isSome := rfl
theorem cfg_ext (K : FuncId) : cfg.ext K = none := rfl
theorem cfg_xinl (K : FuncId) : cfg.xinl K = none := rfl
theorem ck {S : Sm} {objs : List (Nat × Ob)} {nxt K : Nat} {args : List D} {fn : Func} (h : zx.find K = some fn) (hi : memN K [66, 85, 86, 94, 104, 109, 110, 113, 114, 115, 116, 117, 118, 119, 121, 122, 125, 126, 127, 128, 129, 130, 131, 132, 133, 135, 136, 137, 138, 139, 140, 141, 142] = false) : zw cfg S objs nxt K args = zl S objs nxt K args := by
  simp only [zw, cfg_fn, h]
  rw [show cfg.inl K = memN K [66, 85, 86, 94, 104, 109, 110, 113, 114, 115, 116, 117, 118, 119, 121, 122, 125, 126, 127, 128, 129, 130, 131, 132, 133, 135, 136, 137, 138, 139, 140, 141, 142] from rfl, hi]
  rfl
theorem ckI {S : Sm} {objs : List (Nat × Ob)} {nxt K : Nat} {args : List D} {fn : Func} (h : zx.find K = some fn) (hi : memN K [66, 85, 86, 94, 104, 109, 110, 113, 114, 115, 116, 117, 118, 119, 121, 122, 125, 126, 127, 128, 129, 130, 131, 132, 133, 135, 136, 137, 138, 139, 140, 141, 142] = true) : zw cfg S objs nxt K args = zU S objs nxt K args := by
  simp only [zw, cfg_fn, h]
  rw [show cfg.inl K = memN K [66, 85, 86, 94, 104, 109, 110, 113, 114, 115, 116, 117, 118, 119, 121, 122, 125, 126, 127, 128, 129, 130, 131, 132, 133, 135, 136, 137, 138, 139, 140, 141, 142] from rfl, hi]
  rfl
theorem lck2 {S : Sm} {objs : List (Nat × Ob)} {nxt : Nat} {args : List D} : zw cfg S objs nxt 2 args = zl S objs nxt 2 args := ck cfn2 rfl
theorem lck3 {S : Sm} {objs : List (Nat × Ob)} {nxt : Nat} {args : List D} : zw cfg S objs nxt 3 args = zl S objs nxt 3 args := ck cfn3 rfl
theorem lck4 {S : Sm} {objs : List (Nat × Ob)} {nxt : Nat} {args : List D} : zw cfg S objs nxt 4 args = zl S objs nxt 4 args := ck cfn4 rfl
theorem lck5 {S : Sm} {objs : List (Nat × Ob)} {nxt : Nat} {args : List D} : zw cfg S objs nxt 5 args = zl S objs nxt 5 args := ck cfn5 rfl
theorem lck6 {S : Sm} {objs : List (Nat × Ob)} {nxt : Nat} {args : List D} : zw cfg S objs nxt 6 args = zl S objs nxt 6 args := ck cfn6 rfl
theorem lck7 {S : Sm} {objs : List (Nat × Ob)} {nxt : Nat} {args : List D} : zw cfg S objs nxt 7 args = zl S objs nxt 7 args := ck cfn7 rfl
theorem lck8 {S : Sm} {objs : List (Nat × Ob)} {nxt : Nat} {args : List D} : zw cfg S objs nxt 8 args = zl S objs nxt 8 args := ck cfn8 rfl
theorem lck9 {S : Sm} {objs : List (Nat × Ob)} {nxt : Nat} {args : List D} : zw cfg S objs nxt 9 args = zl S objs nxt 9 args := ck cfn9 rfl
theorem lck10 {S : Sm} {objs : List (Nat × Ob)} {nxt : Nat} {args : List D} : zw cfg S objs nxt 10 args = zl S objs nxt 10 args := ck cfn10 rfl
theorem lck11 {S : Sm} {objs : List (Nat × Ob)} {nxt : Nat} {args : List D} : zw cfg S objs nxt 11 args = zl S objs nxt 11 args := ck cfn11 rfl
theorem lck12 {S : Sm} {objs : List (Nat × Ob)} {nxt : Nat} {args : List D} : zw cfg S objs nxt 12 args = zl S objs nxt 12 args := ck cfn12 rfl
theorem lck13 {S : Sm} {objs : List (Nat × Ob)} {nxt : Nat} {args : List D} : zw cfg S objs nxt 13 args = zl S objs nxt 13 args := ck cfn13 rfl
theorem lck14 {S : Sm} {objs : List (Nat × Ob)} {nxt : Nat} {args : List D} : zw cfg S objs nxt 14 args = zl S objs nxt 14 args := ck cfn14 rfl
theorem lck15 {S : Sm} {objs : List (Nat × Ob)} {nxt : Nat} {args : List D} : zw cfg S objs nxt 15 args = zl S objs nxt 15 args := ck cfn15 rfl
theorem lck16 {S : Sm} {objs : List (Nat × Ob)} {nxt : Nat} {args : List D} : zw cfg S objs nxt 16 args = zl S objs nxt 16 args := ck cfn16 rfl
theorem lck17 {S : Sm} {objs : List (Nat × Ob)} {nxt : Nat} {args : List D} : zw cfg S objs nxt 17 args = zl S objs nxt 17 args := ck cfn17 rfl
theorem lck18 {S : Sm} {objs : List (Nat × Ob)} {nxt : Nat} {args : List D} : zw cfg S objs nxt 18 args = zl S objs nxt 18 args := ck cfn18 rfl
theorem lck19 {S : Sm} {objs : List (Nat × Ob)} {nxt : Nat} {args : List D} : zw cfg S objs nxt 19 args = zl S objs nxt 19 args := ck cfn19 rfl
theorem lck20 {S : Sm} {objs : List (Nat × Ob)} {nxt : Nat} {args : List D} : zw cfg S objs nxt 20 args = zl S objs nxt 20 args := ck cfn20 rfl
theorem lck21 {S : Sm} {objs : List (Nat × Ob)} {nxt : Nat} {args : List D} : zw cfg S objs nxt 21 args = zl S objs nxt 21 args := ck cfn21 rfl
theorem lck22 {S : Sm} {objs : List (Nat × Ob)} {nxt : Nat} {args : List D} : zw cfg S objs nxt 22 args = zl S objs nxt 22 args := ck cfn22 rfl
theorem lck23 {S : Sm} {objs : List (Nat × Ob)} {nxt : Nat} {args : List D} : zw cfg S objs nxt 23 args = zl S objs nxt 23 args := ck cfn23 rfl
theorem lck24 {S : Sm} {objs : List (Nat × Ob)} {nxt : Nat} {args : List D} : zw cfg S objs nxt 24 args = zl S objs nxt 24 args := ck cfn24 rfl
theorem lck25 {S : Sm} {objs : List (Nat × Ob)} {nxt : Nat} {args : List D} : zw cfg S objs nxt 25 args = zl S objs nxt 25 args := ck cfn25 rfl
theorem lck26 {S : Sm} {objs : List (Nat × Ob)} {nxt : Nat} {args : List D} : zw cfg S objs nxt 26 args = zl S objs nxt 26 args := ck cfn26 rfl
theorem lck27 {S : Sm} {objs : List (Nat × Ob)} {nxt : Nat} {args : List D} : zw cfg S objs nxt 27 args = zl S objs nxt 27 args := ck cfn27 rfl
theorem lck28 {S : Sm} {objs : List (Nat × Ob)} {nxt : Nat} {args : List D} : zw cfg S objs nxt 28 args = zl S objs nxt 28 args := ck cfn28 rfl
theorem lck29 {S : Sm} {objs : List (Nat × Ob)} {nxt : Nat} {args : List D} : zw cfg S objs nxt 29 args = zl S objs nxt 29 args := ck cfn29 rfl
theorem lck30 {S : Sm} {objs : List (Nat × Ob)} {nxt : Nat} {args : List D} : zw cfg S objs nxt 30 args = zl S objs nxt 30 args := ck cfn30 rfl
theorem lck31 {S : Sm} {objs : List (Nat × Ob)} {nxt : Nat} {args : List D} : zw cfg S objs nxt 31 args = zl S objs nxt 31 args := ck cfn31 rfl
theorem lck32 {S : Sm} {objs : List (Nat × Ob)} {nxt : Nat} {args : List D} : zw cfg S objs nxt 32 args = zl S objs nxt 32 args := ck cfn32 rfl
theorem lck33 {S : Sm} {objs : List (Nat × Ob)} {nxt : Nat} {args : List D} : zw cfg S objs nxt 33 args = zl S objs nxt 33 args := ck cfn33 rfl
theorem lck34 {S : Sm} {objs : List (Nat × Ob)} {nxt : Nat} {args : List D} : zw cfg S objs nxt 34 args = zl S objs nxt 34 args := ck cfn34 rfl
theorem lck35 {S : Sm} {objs : List (Nat × Ob)} {nxt : Nat} {args : List D} : zw cfg S objs nxt 35 args = zl S objs nxt 35 args := ck cfn35 rfl
theorem lck36 {S : Sm} {objs : List (Nat × Ob)} {nxt : Nat} {args : List D} : zw cfg S objs nxt 36 args = zl S objs nxt 36 args := ck cfn36 rfl
theorem lck37 {S : Sm} {objs : List (Nat × Ob)} {nxt : Nat} {args : List D} : zw cfg S objs nxt 37 args = zl S objs nxt 37 args := ck cfn37 rfl
theorem lck38 {S : Sm} {objs : List (Nat × Ob)} {nxt : Nat} {args : List D} : zw cfg S objs nxt 38 args = zl S objs nxt 38 args := ck cfn38 rfl
theorem lck39 {S : Sm} {objs : List (Nat × Ob)} {nxt : Nat} {args : List D} : zw cfg S objs nxt 39 args = zl S objs nxt 39 args := ck cfn39 rfl
theorem lck40 {S : Sm} {objs : List (Nat × Ob)} {nxt : Nat} {args : List D} : zw cfg S objs nxt 40 args = zl S objs nxt 40 args := ck cfn40 rfl
theorem lck41 {S : Sm} {objs : List (Nat × Ob)} {nxt : Nat} {args : List D} : zw cfg S objs nxt 41 args = zl S objs nxt 41 args := ck cfn41 rfl
theorem lck42 {S : Sm} {objs : List (Nat × Ob)} {nxt : Nat} {args : List D} : zw cfg S objs nxt 42 args = zl S objs nxt 42 args := ck cfn42 rfl
theorem lck43 {S : Sm} {objs : List (Nat × Ob)} {nxt : Nat} {args : List D} : zw cfg S objs nxt 43 args = zl S objs nxt 43 args := ck cfn43 rfl
theorem lck44 {S : Sm} {objs : List (Nat × Ob)} {nxt : Nat} {args : List D} : zw cfg S objs nxt 44 args = zl S objs nxt 44 args := ck cfn44 rfl
theorem lck45 {S : Sm} {objs : List (Nat × Ob)} {nxt : Nat} {args : List D} : zw cfg S objs nxt 45 args = zl S objs nxt 45 args := ck cfn45 rfl
theorem lck46 {S : Sm} {objs : List (Nat × Ob)} {nxt : Nat} {args : List D} : zw cfg S objs nxt 46 args = zl S objs nxt 46 args := ck cfn46 rfl
theorem lck47 {S : Sm} {objs : List (Nat × Ob)} {nxt : Nat} {args : List D} : zw cfg S objs nxt 47 args = zl S objs nxt 47 args := ck cfn47 rfl
theorem lck48 {S : Sm} {objs : List (Nat × Ob)} {nxt : Nat} {args : List D} : zw cfg S objs nxt 48 args = zl S objs nxt 48 args := ck cfn48 rfl
theorem lck49 {S : Sm} {objs : List (Nat × Ob)} {nxt : Nat} {args : List D} : zw cfg S objs nxt 49 args = zl S objs nxt 49 args := ck cfn49 rfl
theorem lck50 {S : Sm} {objs : List (Nat × Ob)} {nxt : Nat} {args : List D} : zw cfg S objs nxt 50 args = zl S objs nxt 50 args := ck cfn50 rfl
theorem lck51 {S : Sm} {objs : List (Nat × Ob)} {nxt : Nat} {args : List D} : zw cfg S objs nxt 51 args = zl S objs nxt 51 args := ck cfn51 rfl
theorem lck52 {S : Sm} {objs : List (Nat × Ob)} {nxt : Nat} {args : List D} : zw cfg S objs nxt 52 args = zl S objs nxt 52 args := ck cfn52 rfl
theorem lck53 {S : Sm} {objs : List (Nat × Ob)} {nxt : Nat} {args : List D} : zw cfg S objs nxt 53 args = zl S objs nxt 53 args := ck cfn53 rfl
theorem lck54 {S : Sm} {objs : List (Nat × Ob)} {nxt : Nat} {args : List D} : zw cfg S objs nxt 54 args = zl S objs nxt 54 args := ck cfn54 rfl
theorem lck55 {S : Sm} {objs : List (Nat × Ob)} {nxt : Nat} {args : List D} : zw cfg S objs nxt 55 args = zl S objs nxt 55 args := ck cfn55 rfl
theorem lck56 {S : Sm} {objs : List (Nat × Ob)} {nxt : Nat} {args : List D} : zw cfg S objs nxt 56 args = zl S objs nxt 56 args := ck cfn56 rfl
theorem lck57 {S : Sm} {objs : List (Nat × Ob)} {nxt : Nat} {args : List D} : zw cfg S objs nxt 57 args = zl S objs nxt 57 args := ck cfn57 rfl
theorem lck58 {S : Sm} {objs : List (Nat × Ob)} {nxt : Nat} {args : List D} : zw cfg S objs nxt 58 args = zl S objs nxt 58 args := ck cfn58 rfl
theorem lck59 {S : Sm} {objs : List (Nat × Ob)} {nxt : Nat} {args : List D} : zw cfg S objs nxt 59 args = zl S objs nxt 59 args := ck cfn59 rfl
theorem lck60 {S : Sm} {objs : List (Nat × Ob)} {nxt : Nat} {args : List D} : zw cfg S objs nxt 60 args = zl S objs nxt 60 args := ck cfn60 rfl
theorem lck61 {S : Sm} {objs : List (Nat × Ob)} {nxt : Nat} {args : List D} : zw cfg S objs nxt 61 args = zl S objs nxt 61 args := ck cfn61 rfl
theorem lck62 {S : Sm} {objs : List (Nat × Ob)} {nxt : Nat} {args : List D} : zw cfg S objs nxt 62 args = zl S objs nxt 62 args := ck cfn62 rfl
theorem lck63 {S : Sm} {objs : List (Nat × Ob)} {nxt : Nat} {args : List D} : zw cfg S objs nxt 63 args = zl S objs nxt 63 args := ck cfn63 rfl
theorem lck64 {S : Sm} {objs : List (Nat × Ob)} {nxt : Nat} {args : List D} : zw cfg S objs nxt 64 args = zl S objs nxt 64 args := ck cfn64 rfl
theorem lck65 {S : Sm} {objs : List (Nat × Ob)} {nxt : Nat} {args : List D} : zw cfg S objs nxt 65 args = zl S objs nxt 65 args := ck cfn65 rfl
theorem lck67 {S : Sm} {objs : List (Nat × Ob)} {nxt : Nat} {args : List D} : zw cfg S objs nxt 67 args = zl S objs nxt 67 args := ck cfn67 rfl
theorem lck68 {S : Sm} {objs : List (Nat × Ob)} {nxt : Nat} {args : List D} : zw cfg S objs nxt 68 args = zl S objs nxt 68 args := ck cfn68 rfl
theorem lck69 {S : Sm} {objs : List (Nat × Ob)} {nxt : Nat} {args : List D} : zw cfg S objs nxt 69 args = zl S objs nxt 69 args := ck cfn69 rfl
theorem lck70 {S : Sm} {objs : List (Nat × Ob)} {nxt : Nat} {args : List D} : zw cfg S objs nxt 70 args = zl S objs nxt 70 args := ck cfn70 rfl
theorem lck71 {S : Sm} {objs : List (Nat × Ob)} {nxt : Nat} {args : List D} : zw cfg S objs nxt 71 args = zl S objs nxt 71 args := ck cfn71 rfl
theorem lck72 {S : Sm} {objs : List (Nat × Ob)} {nxt : Nat} {args : List D} : zw cfg S objs nxt 72 args = zl S objs nxt 72 args := ck cfn72 rfl
theorem lck73 {S : Sm} {objs : List (Nat × Ob)} {nxt : Nat} {args : List D} : zw cfg S objs nxt 73 args = zl S objs nxt 73 args := ck cfn73 rfl
theorem lck74 {S : Sm} {objs : List (Nat × Ob)} {nxt : Nat} {args : List D} : zw cfg S objs nxt 74 args = zl S objs nxt 74 args := ck cfn74 rfl
theorem lck75 {S : Sm} {objs : List (Nat × Ob)} {nxt : Nat} {args : List D} : zw cfg S objs nxt 75 args = zl S objs nxt 75 args := ck cfn75 rfl
theorem lck76 {S : Sm} {objs : List (Nat × Ob)} {nxt : Nat} {args : List D} : zw cfg S objs nxt 76 args = zl S objs nxt 76 args := ck cfn76 rfl
theorem lck77 {S : Sm} {objs : List (Nat × Ob)} {nxt : Nat} {args : List D} : zw cfg S objs nxt 77 args = zl S objs nxt 77 args := ck cfn77 rfl
theorem lck78 {S : Sm} {objs : List (Nat × Ob)} {nxt : Nat} {args : List D} : zw cfg S objs nxt 78 args = zl S objs nxt 78 args := ck cfn78 rfl
theorem lck79 {S : Sm} {objs : List (Nat × Ob)} {nxt : Nat} {args : List D} : zw cfg S objs nxt 79 args = zl S objs nxt 79 args := ck cfn79 rfl
theorem lck80 {S : Sm} {objs : List (Nat × Ob)} {nxt : Nat} {args : List D} : zw cfg S objs nxt 80 args = zl S objs nxt 80 args := ck cfn80 rfl
theorem lck81 {S : Sm} {objs : List (Nat × Ob)} {nxt : Nat} {args : List D} : zw cfg S objs nxt 81 args = zl S objs nxt 81 args := ck cfn81 rfl
theorem lck82 {S : Sm} {objs : List (Nat × Ob)} {nxt : Nat} {args : List D} : zw cfg S objs nxt 82 args = zl S objs nxt 82 args := ck cfn82 rfl
theorem lck83 {S : Sm} {objs : List (Nat × Ob)} {nxt : Nat} {args : List D} : zw cfg S objs nxt 83 args = zl S objs nxt 83 args := ck cfn83 rfl
theorem lck84 {S : Sm} {objs : List (Nat × Ob)} {nxt : Nat} {args : List D} : zw cfg S objs nxt 84 args = zl S objs nxt 84 args := ck cfn84 rfl
theorem lck87 {S : Sm} {objs : List (Nat × Ob)} {nxt : Nat} {args : List D} : zw cfg S objs nxt 87 args = zl S objs nxt 87 args := ck cfn87 rfl
theorem lck88 {S : Sm} {objs : List (Nat × Ob)} {nxt : Nat} {args : List D} : zw cfg S objs nxt 88 args = zl S objs nxt 88 args := ck cfn88 rfl
theorem lck89 {S : Sm} {objs : List (Nat × Ob)} {nxt : Nat} {args : List D} : zw cfg S objs nxt 89 args = zl S objs nxt 89 args := ck cfn89 rfl
theorem lck90 {S : Sm} {objs : List (Nat × Ob)} {nxt : Nat} {args : List D} : zw cfg S objs nxt 90 args = zl S objs nxt 90 args := ck cfn90 rfl
theorem lck91 {S : Sm} {objs : List (Nat × Ob)} {nxt : Nat} {args : List D} : zw cfg S objs nxt 91 args = zl S objs nxt 91 args := ck cfn91 rfl
theorem lck92 {S : Sm} {objs : List (Nat × Ob)} {nxt : Nat} {args : List D} : zw cfg S objs nxt 92 args = zl S objs nxt 92 args := ck cfn92 rfl
theorem lck93 {S : Sm} {objs : List (Nat × Ob)} {nxt : Nat} {args : List D} : zw cfg S objs nxt 93 args = zl S objs nxt 93 args := ck cfn93 rfl
theorem lck95 {S : Sm} {objs : List (Nat × Ob)} {nxt : Nat} {args : List D} : zw cfg S objs nxt 95 args = zl S objs nxt 95 args := ck cfn95 rfl
theorem lck96 {S : Sm} {objs : List (Nat × Ob)} {nxt : Nat} {args : List D} : zw cfg S objs nxt 96 args = zl S objs nxt 96 args := ck cfn96 rfl
theorem lck97 {S : Sm} {objs : List (Nat × Ob)} {nxt : Nat} {args : List D} : zw cfg S objs nxt 97 args = zl S objs nxt 97 args := ck cfn97 rfl
theorem lck98 {S : Sm} {objs : List (Nat × Ob)} {nxt : Nat} {args : List D} : zw cfg S objs nxt 98 args = zl S objs nxt 98 args := ck cfn98 rfl
theorem lck99 {S : Sm} {objs : List (Nat × Ob)} {nxt : Nat} {args : List D} : zw cfg S objs nxt 99 args = zl S objs nxt 99 args := ck cfn99 rfl
theorem lck100 {S : Sm} {objs : List (Nat × Ob)} {nxt : Nat} {args : List D} : zw cfg S objs nxt 100 args = zl S objs nxt 100 args := ck cfn100 rfl
theorem lck101 {S : Sm} {objs : List (Nat × Ob)} {nxt : Nat} {args : List D} : zw cfg S objs nxt 101 args = zl S objs nxt 101 args := ck cfn101 rfl
theorem lck102 {S : Sm} {objs : List (Nat × Ob)} {nxt : Nat} {args : List D} : zw cfg S objs nxt 102 args = zl S objs nxt 102 args := ck cfn102 rfl
theorem lck103 {S : Sm} {objs : List (Nat × Ob)} {nxt : Nat} {args : List D} : zw cfg S objs nxt 103 args = zl S objs nxt 103 args := ck cfn103 rfl
theorem lck105 {S : Sm} {objs : List (Nat × Ob)} {nxt : Nat} {args : List D} : zw cfg S objs nxt 105 args = zl S objs nxt 105 args := ck cfn105 rfl
theorem lck106 {S : Sm} {objs : List (Nat × Ob)} {nxt : Nat} {args : List D} : zw cfg S objs nxt 106 args = zl S objs nxt 106 args := ck cfn106 rfl
theorem lck107 {S : Sm} {objs : List (Nat × Ob)} {nxt : Nat} {args : List D} : zw cfg S objs nxt 107 args = zl S objs nxt 107 args := ck cfn107 rfl
theorem lck108 {S : Sm} {objs : List (Nat × Ob)} {nxt : Nat} {args : List D} : zw cfg S objs nxt 108 args = zl S objs nxt 108 args := ck cfn108 rfl
theorem lck111 {S : Sm} {objs : List (Nat × Ob)} {nxt : Nat} {args : List D} : zw cfg S objs nxt 111 args = zl S objs nxt 111 args := ck cfn111 rfl
theorem lck112 {S : Sm} {objs : List (Nat × Ob)} {nxt : Nat} {args : List D} : zw cfg S objs nxt 112 args = zl S objs nxt 112 args := ck cfn112 rfl
theorem lck120 {S : Sm} {objs : List (Nat × Ob)} {nxt : Nat} {args : List D} : zw cfg S objs nxt 120 args = zl S objs nxt 120 args := ck cfn120 rfl
theorem lck123 {S : Sm} {objs : List (Nat × Ob)} {nxt : Nat} {args : List D} : zw cfg S objs nxt 123 args = zl S objs nxt 123 args := ck cfn123 rfl
theorem lck124 {S : Sm} {objs : List (Nat × Ob)} {nxt : Nat} {args : List D} : zw cfg S objs nxt 124 args = zl S objs nxt 124 args := ck cfn124 rfl
theorem lck134 {S : Sm} {objs : List (Nat × Ob)} {nxt : Nat} {args : List D} : zw cfg S objs nxt 134 args = zl S objs nxt 134 args := ck cfn134 rfl

theorem lck66 {S : Sm} {objs : List (Nat × Ob)} {nxt : Nat} {args : List D} : zw cfg S objs nxt 66 args = zU S objs nxt 66 args := ckI cfn66 rfl
theorem lck85 {S : Sm} {objs : List (Nat × Ob)} {nxt : Nat} {args : List D} : zw cfg S objs nxt 85 args = zU S objs nxt 85 args := ckI cfn85 rfl
theorem lck86 {S : Sm} {objs : List (Nat × Ob)} {nxt : Nat} {args : List D} : zw cfg S objs nxt 86 args = zU S objs nxt 86 args := ckI cfn86 rfl
theorem lck94 {S : Sm} {objs : List (Nat × Ob)} {nxt : Nat} {args : List D} : zw cfg S objs nxt 94 args = zU S objs nxt 94 args := ckI cfn94 rfl
theorem lck104 {S : Sm} {objs : List (Nat × Ob)} {nxt : Nat} {args : List D} : zw cfg S objs nxt 104 args = zU S objs nxt 104 args := ckI cfn104 rfl
theorem lck109 {S : Sm} {objs : List (Nat × Ob)} {nxt : Nat} {args : List D} : zw cfg S objs nxt 109 args = zU S objs nxt 109 args := ckI cfn109 rfl
theorem lck110 {S : Sm} {objs : List (Nat × Ob)} {nxt : Nat} {args : List D} : zw cfg S objs nxt 110 args = zU S objs nxt 110 args := ckI cfn110 rfl
theorem lck113 {S : Sm} {objs : List (Nat × Ob)} {nxt : Nat} {args : List D} : zw cfg S objs nxt 113 args = zU S objs nxt 113 args := ckI cfn113 rfl
theorem lck114 {S : Sm} {objs : List (Nat × Ob)} {nxt : Nat} {args : List D} : zw cfg S objs nxt 114 args = zU S objs nxt 114 args := ckI cfn114 rfl
theorem lck115 {S : Sm} {objs : List (Nat × Ob)} {nxt : Nat} {args : List D} : zw cfg S objs nxt 115 args = zU S objs nxt 115 args := ckI cfn115 rfl
theorem lck116 {S : Sm} {objs : List (Nat × Ob)} {nxt : Nat} {args : List D} : zw cfg S objs nxt 116 args = zU S objs nxt 116 args := ckI cfn116 rfl
theorem lck117 {S : Sm} {objs : List (Nat × Ob)} {nxt : Nat} {args : List D} : zw cfg S objs nxt 117 args = zU S objs nxt 117 args := ckI cfn117 rfl
theorem lck118 {S : Sm} {objs : List (Nat × Ob)} {nxt : Nat} {args : List D} : zw cfg S objs nxt 118 args = zU S objs nxt 118 args := ckI cfn118 rfl
theorem lck119 {S : Sm} {objs : List (Nat × Ob)} {nxt : Nat} {args : List D} : zw cfg S objs nxt 119 args = zU S objs nxt 119 args := ckI cfn119 rfl
theorem lck121 {S : Sm} {objs : List (Nat × Ob)} {nxt : Nat} {args : List D} : zw cfg S objs nxt 121 args = zU S objs nxt 121 args := ckI cfn121 rfl
theorem lck122 {S : Sm} {objs : List (Nat × Ob)} {nxt : Nat} {args : List D} : zw cfg S objs nxt 122 args = zU S objs nxt 122 args := ckI cfn122 rfl
theorem lck125 {S : Sm} {objs : List (Nat × Ob)} {nxt : Nat} {args : List D} : zw cfg S objs nxt 125 args = zU S objs nxt 125 args := ckI cfn125 rfl
theorem lck126 {S : Sm} {objs : List (Nat × Ob)} {nxt : Nat} {args : List D} : zw cfg S objs nxt 126 args = zU S objs nxt 126 args := ckI cfn126 rfl
theorem lck127 {S : Sm} {objs : List (Nat × Ob)} {nxt : Nat} {args : List D} : zw cfg S objs nxt 127 args = zU S objs nxt 127 args := ckI cfn127 rfl
theorem lck128 {S : Sm} {objs : List (Nat × Ob)} {nxt : Nat} {args : List D} : zw cfg S objs nxt 128 args = zU S objs nxt 128 args := ckI cfn128 rfl
theorem lck129 {S : Sm} {objs : List (Nat × Ob)} {nxt : Nat} {args : List D} : zw cfg S objs nxt 129 args = zU S objs nxt 129 args := ckI cfn129 rfl
theorem lck130 {S : Sm} {objs : List (Nat × Ob)} {nxt : Nat} {args : List D} : zw cfg S objs nxt 130 args = zU S objs nxt 130 args := ckI cfn130 rfl
theorem lck131 {S : Sm} {objs : List (Nat × Ob)} {nxt : Nat} {args : List D} : zw cfg S objs nxt 131 args = zU S objs nxt 131 args := ckI cfn131 rfl
theorem lck132 {S : Sm} {objs : List (Nat × Ob)} {nxt : Nat} {args : List D} : zw cfg S objs nxt 132 args = zU S objs nxt 132 args := ckI cfn132 rfl
theorem lck133 {S : Sm} {objs : List (Nat × Ob)} {nxt : Nat} {args : List D} : zw cfg S objs nxt 133 args = zU S objs nxt 133 args := ckI cfn133 rfl
theorem lck135 {S : Sm} {objs : List (Nat × Ob)} {nxt : Nat} {args : List D} : zw cfg S objs nxt 135 args = zU S objs nxt 135 args := ckI cfn135 rfl
theorem lck136 {S : Sm} {objs : List (Nat × Ob)} {nxt : Nat} {args : List D} : zw cfg S objs nxt 136 args = zU S objs nxt 136 args := ckI cfn136 rfl
theorem lck137 {S : Sm} {objs : List (Nat × Ob)} {nxt : Nat} {args : List D} : zw cfg S objs nxt 137 args = zU S objs nxt 137 args := ckI cfn137 rfl
theorem lck138 {S : Sm} {objs : List (Nat × Ob)} {nxt : Nat} {args : List D} : zw cfg S objs nxt 138 args = zU S objs nxt 138 args := ckI cfn138 rfl
theorem lck139 {S : Sm} {objs : List (Nat × Ob)} {nxt : Nat} {args : List D} : zw cfg S objs nxt 139 args = zU S objs nxt 139 args := ckI cfn139 rfl
theorem lck140 {S : Sm} {objs : List (Nat × Ob)} {nxt : Nat} {args : List D} : zw cfg S objs nxt 140 args = zU S objs nxt 140 args := ckI cfn140 rfl
theorem lck141 {S : Sm} {objs : List (Nat × Ob)} {nxt : Nat} {args : List D} : zw cfg S objs nxt 141 args = zU S objs nxt 141 args := ckI cfn141 rfl
theorem lck142 {S : Sm} {objs : List (Nat × Ob)} {nxt : Nat} {args : List D} : zw cfg S objs nxt 142 args = zU S objs nxt 142 args := ckI cfn142 rfl

set_option linter.defProp false
def cks := (And.intro (And.intro (And.intro (And.intro (And.intro (And.intro @lck2 (And.intro @lck3 @lck4)) (And.intro @lck5 (And.intro @lck6 @lck7))) (And.intro (And.intro @lck8 (And.intro @lck9 @lck10)) (And.intro (And.intro @lck11 @lck12) (And.intro @lck13 @lck14)))) (And.intro (And.intro (And.intro @lck15 (And.intro @lck16 @lck17)) (And.intro (And.intro @lck18 @lck19) (And.intro @lck20 @lck21))) (And.intro (And.intro @lck22 (And.intro @lck23 @lck24)) (And.intro (And.intro @lck25 @lck26) (And.intro @lck27 @lck28))))) (And.intro (And.intro (And.intro (And.intro @lck29 (And.intro @lck30 @lck31)) (And.intro @lck32 (And.intro @lck33 @lck34))) (And.intro (And.intro @lck35 (And.intro @lck36 @lck37)) (And.intro (And.intro @lck38 @lck39) (And.intro @lck40 @lck41)))) (And.intro (And.intro (And.intro @lck42 (And.intro @lck43 @lck44)) (And.intro (And.intro @lck45 @lck46) (And.intro @lck47 @lck48))) (And.intro (And.intro @lck49 (And.intro @lck50 @lck51)) (And.intro (And.intro @lck52 @lck53) (And.intro @lck54 @lck55)))))) (And.intro (And.intro (And.intro (And.intro (And.intro @lck56 (And.intro @lck57 @lck58)) (And.intro @lck59 (And.intro @lck60 @lck61))) (And.intro (And.intro @lck62 (And.intro @lck63 @lck64)) (And.intro (And.intro @lck65 @lck67) (And.intro @lck68 @lck69)))) (And.intro (And.intro (And.intro @lck70 (And.intro @lck71 @lck72)) (And.intro (And.intro @lck73 @lck74) (And.intro @lck75 @lck76))) (And.intro (And.intro @lck77 (And.intro @lck78 @lck79)) (And.intro (And.intro @lck80 @lck81) (And.intro @lck82 @lck83))))) (And.intro (And.intro (And.intro (And.intro @lck84 (And.intro @lck87 @lck88)) (And.intro @lck89 (And.intro @lck90 @lck91))) (And.intro (And.intro @lck92 (And.intro @lck93 @lck95)) (And.intro (And.intro @lck96 @lck97) (And.intro @lck98 @lck99)))) (And.intro (And.intro (And.intro @lck100 (And.intro @lck101 @lck102)) (And.intro (And.intro @lck103 @lck105) (And.intro @lck106 @lck107))) (And.intro (And.intro @lck108 (And.intro @lck111 @lck112)) (And.intro (And.intro @lck120 @lck123) (And.intro @lck124 @lck134)))))))
attribute [go_sem] tys cks cfg_ty cfg_eqok zs_false
end Go.VS
/-
  VS, part V: a way through code, what it meets being told beforehand. (A text of this claim's own; nothing of it is trusted.)
-/
namespace Go.VS
open Go

/-- What is told: how a Bool turns out; what a call answers; an element of a slice; what an operation comes to; what a loop, a range over a function come to. -/
inductive Ora where
  | dec (b : Bool)
  | pure (d : D)
  | pureS (d : D) (fl : Bool) (a : List (Nat × D × List Nat))
  | inl (d : D) (objs : List (Nat × Ob)) (nxt : Nat)
  | inlS (ids : List Nat) (d : D) (objs : List (Nat × Ob)) (nxt : Nat)
  | el (d : D)
  | op (t : Option Tmp) (r : Out)
  | rw (t : Tmp) (d : D)
  | stS (k : Nat) (r : Out)
  | loop (e : Exit) (st : St)
  | gloop (st1 : St) (e : Exit) (st : St)
  | iter (objs : List (Nat × Ob)) (nxt : Nat) (p : Option Code)
  | loopY (e : Exit) (st : St) (p : Option Code)
  | gloopY (st1 : St) (e : Exit) (st : St) (p : Option Code)
def allP : List Prop → Prop
  | [] => True
  | p :: r => p ∧ allP r
def dead : Sm := ⟨fun _ _ => none, fun _ _ _ _ => none, fun _ _ _ => none, fun _ _ _ _ => none, fun _ _ _ _ _ => none⟩
theorem dead_le (S : Sm) : Le dead S := ⟨fun _ _ _ h => by simp [dead] at h, fun _ _ _ _ _ h => by simp [dead] at h, fun _ _ _ _ h => by simp [dead] at h, fun _ _ _ _ _ h => by simp [dead] at h, fun _ _ _ _ _ _ h => by simp [dead] at h⟩

/-! ### copies, rows being told -/
abbrev SA := List (Nat × D × List Nat)
def snapAllP (g : D → SA → List Prop → Option (D × List Nat × SA × List Prop)) : List D → SA → List Prop → Option (List D × List Nat × SA × List Prop)
  | [], a, p => some ([], [], a, p)
  | d :: ds, a, p => match g d a p with
    | some (d, r, a, p) => match snapAllP g ds a p with
      | some (ds, r', a, p) => some (d :: ds, r ++ r', a, p)
      | none => none
    | none => none
def hitS (o f : Nat) : SA → Option (D × List Nat × SA)
  | (o', d, r) :: a => match eqb o o' && ltb 1 f with | true => some (d, r, a) | false => none
  | [] => none
def snapP (gO : Nat → Option Ob) : Nat → D → SA → List Prop → Option (D × List Nat × SA × List Prop)
  | 0, _, _, _ => none
  | f + 1, d, a, p => match d with
    | .agg cs => match snapAllP (snapP gO f) cs a p with | some (cs, r, a, p) => some (.agg cs, r, a, p) | none => none
    | .tup cs => match snapAllP (snapP gO f) cs a p with | some (cs, r, a, p) => some (.tup cs, r, a, p) | none => none
    | .fn g x y => match snapAllP (snapP gO f) x a p with
      | some (x, r, a, p) => match snapAllP (snapP gO f) y a p with
        | some (y, r', a, p) => some (.fn g x y, r ++ r', a, p)
        | none => none
      | none => none
    | .lref o i sz sub => if sub = 0 then match gO o with
      | some ob => if ob.sz = sz then match ob.els[i]? with
        | some e => match snapP gO f e a p with | some (e, r, a, p) => some (.ptr e, o :: r, a, p) | none => none
        | none => none
        else none
      | none => none
      else none
    | .lsl o off len sz cap => match hitS o f a with
      | some (d, r, a) => some (d, r, a, (∀ n, snap gO (n + 3) (.lsl o off len sz cap) = some (d, r)) :: p)
      | none => match snap gO (f + 1) (.lsl o off len sz cap) with | some (d, r) => some (d, r, a, p) | none => none
    | d => match snap gO (f + 1) d with | some (d, r) => some (d, r, a, p) | none => none
theorem snapAllP_sound {gO : Nat → Option Ob} {f : Nat} (ih : ∀ d a p d' r a' p', snapP gO f d a p = some (d', r, a', p') → allP p' → snap gO f d = some (d', r) ∧ allP p) :
    ∀ ds a p ds' r a' p', snapAllP (snapP gO f) ds a p = some (ds', r, a', p') → allP p' → snapAll (snap gO f) ds = some (ds', r) ∧ allP p
  | [], a, p, ds', r, a', p', h, hp => by simp only [snapAllP, Option.some.injEq, Prod.mk.injEq] at h; obtain ⟨rfl, rfl, rfl, rfl⟩ := h; exact ⟨rfl, hp⟩
  | d :: ds, a, p, ds', r, a', p', h, hp => by
    simp only [snapAllP] at h
    split at h
    · rename_i d1 r1 a1 p1 h1
      split at h
      · rename_i ds2 r2 a2 p2 h2
        cases h
        obtain ⟨h3, h4⟩ := snapAllP_sound ih _ _ _ _ _ _ _ h2 hp
        obtain ⟨h5, h6⟩ := ih _ _ _ _ _ _ _ h1 h4
        simp only [snapAll, h5, h3]
        exact ⟨trivial, h6⟩
      · cases h
    · cases h
theorem snapP_sound {gO : Nat → Option Ob} : ∀ (f : Nat) (d : D) (a : SA) (p : List Prop) (d' : D) (r : List Nat) (a' : SA) (p' : List Prop), snapP gO f d a p = some (d', r, a', p') → allP p' → snap gO f d = some (d', r) ∧ allP p
  | 0, _, _, _, _, _, _, _, h, _ => by simp [snapP] at h
  | f + 1, d, a, p, d', r, a', p', h, hp => by
    have ih := snapAllP_sound (gO := gO) (f := f) (fun d a p d' r a' p' h hp => snapP_sound f d a p d' r a' p' h hp)
    unfold snapP at h
    split at h
    · split at h
      · rename_i h1
        cases h
        obtain ⟨h2, h3⟩ := ih _ _ _ _ _ _ _ h1 hp
        simp only [snap, h2]
        exact ⟨trivial, h3⟩
      · cases h
    · split at h
      · rename_i h1
        cases h
        obtain ⟨h2, h3⟩ := ih _ _ _ _ _ _ _ h1 hp
        simp only [snap, h2]
        exact ⟨trivial, h3⟩
      · cases h
    · split at h
      · rename_i h1
        split at h
        · rename_i h2
          cases h
          obtain ⟨h3, h4⟩ := ih _ _ _ _ _ _ _ h2 hp
          obtain ⟨h5, h6⟩ := ih _ _ _ _ _ _ _ h1 h4
          simp only [snap, h3, h5]
          exact ⟨trivial, h6⟩
        · cases h
      · cases h
    · split at h
      · rename_i hsub
        split at h
        · rename_i ob hob
          split at h
          · rename_i hsz
            split at h
            · rename_i e he
              split at h
              · rename_i h1
                cases h
                obtain ⟨h2, h3⟩ := snapP_sound f _ _ _ _ _ _ _ h1 hp
                simp only [snap, hsub, hob, hsz, he, h2, if_true]
                exact ⟨trivial, h3⟩
              · cases h
            · cases h
          · cases h
        · cases h
      · cases h
    · split at h
      · rename_i hh
        cases h
        unfold hitS at hh
        split at hh
        · split at hh
          · rename_i hc
            cases hh
            simp only [Bool.and_eq_true] at hc
            have hf := ltb_iff.1 hc.2
            obtain ⟨m, rfl⟩ : ∃ m, f = m + 2 := ⟨f - 2, by omega⟩
            exact ⟨hp.1 m, hp.2⟩
          · cases hh
        · cases hh
      · split at h
        · rename_i h1
          cases h
          exact ⟨h1, hp⟩
        · cases h
    · split at h
      · rename_i h1
        cases h
        exact ⟨h1, hp⟩
      · cases h
/-- A call of a function that is handed copies, rows being told. -/
def pureSO (C : Cfg) (S : Sm) (gT : Nat → D) (objs : List (Nat × Ob)) (nxt : Nat) (o : Op) (d : D) (fl : Bool) (a : SA) : Option (Out × Prop) := match o with
  | .call c => match c.callee with
    | .value f => match zD C gT f with
      | .fn g first captured => match g with
        | .func K => match C.fn K with
          | some _ => match C.inl K with
            | true => none
            | false => match snapAllP (snapP (zE objs) fuelD) (first ++ c.args.toList.map (zD C gT) ++ captured) a [] with
              | some (args', ids, _, p) => some (⟨d, match fl with | true => [] | false => freeze (zE objs) ids, ids, nxt⟩, flat fuelD d = fl ∧ allP p ∧ S.pure K args' = some d)
              | none => none
          | none => none
        | _ => none
      | _ => none
    | _ => none
  | _ => none
/-- A call of a function that is handed deep values. -/
def pureO (C : Cfg) (S : Sm) (gT : Nat → D) (objs : List (Nat × Ob)) (nxt : Nat) (o : Op) (d : D) : Option (Out × Prop) := match o with
  | .call c => match c.callee with
    | .value f => match zD C gT f with
      | .fn g first captured => match g with
        | .func K => match C.fn K with
          | some _ => match C.inl K with
            | true => none
            | false => match snapAll (snap (zE objs) fuelD) (first ++ c.args.toList.map (zD C gT) ++ captured) with
              | some (args', ids) => match ids with
                | [] => some (⟨d, [], [], nxt⟩, S.pure K args' = some d)
                | i :: ids => some (⟨d, if flat fuelD d then [] else freeze (zE objs) (i :: ids), i :: ids, nxt⟩, S.pure K args' = some d)
              | none => none
          | none => none
        | _ => none
      | _ => none
    | _ => none
  | _ => none
/-- A call of a function that is handed the caller's own memory. -/
def inlO (C : Cfg) (S : Sm) (gT : Nat → D) (objs : List (Nat × Ob)) (nxt : Nat) (o : Op) (d : D) (objs' : List (Nat × Ob)) (nxt' : Nat) : Option (Out × Prop) := match o with
  | .call c => match c.callee with
    | .value f => match zD C gT f with
      | .fn g first captured => match g with
        | .func K => match C.fn K with
          | some _ => match C.inl K with
            | false => none
            | true => match idsL (idsD fuelD) (first ++ c.args.toList.map (zD C gT) ++ captured) with
              | some l => match liveFrom objs 256 l [] with
                | some ids => match allBelow nxt ids with
                  | true => match ltb nxt' nxt with
                    | false => some (⟨d, allUpd objs' (ids ++ keysO objs'), ids, nxt'⟩, S.inl K (first ++ c.args.toList.map (zD C gT) ++ captured) (only ids objs) nxt = some (d, objs', nxt'))
                    | true => none
                  | false => none
                | none => none
              | none => none
          | none => none
        | _ => none
      | _ => none
    | _ => none
  | _ => none
/-- The same, what it reaches being told. -/
def inlSO (C : Cfg) (S : Sm) (gT : Nat → D) (objs : List (Nat × Ob)) (nxt : Nat) (o : Op) (ids : List Nat) (d : D) (objs' : List (Nat × Ob)) (nxt' : Nat) : Option (Out × Prop) := match o with
  | .call c => match c.callee with
    | .value f => match zD C gT f with
      | .fn g first captured => match g with
        | .func K => match C.fn K with
          | some _ => match C.inl K with
            | false => none
            | true => match idsL (idsD fuelD) (first ++ c.args.toList.map (zD C gT) ++ captured) with
              | some l => match allBelow nxt ids with
                | true => match ltb nxt' nxt with
                  | false => some (⟨d, allUpd objs' (ids ++ keysO objs'), ids, nxt'⟩, liveFrom objs 256 l [] = some ids ∧ S.inl K (first ++ c.args.toList.map (zD C gT) ++ captured) (only ids objs) nxt = some (d, objs', nxt'))
                  | true => none
                | false => none
              | none => none
          | none => none
        | _ => none
      | _ => none
    | _ => none
  | _ => none
/-- An element of a slice. -/
def elO (C : Cfg) (gT : Nat → D) (nxt : Nat) (o : Op) (d : D) : Option (Out × Prop) := match o with
  | .indexAddr t x ix => match C.ty t with
    | some ty => match ty.kind with
      | .slice e => match C.ty e with
        | some te => match intOfD (zD C gT ix) with
          | some i => match zD C gT x with
            | .sl nl els sz _ => some (⟨.ptr d, [], [], nxt⟩, 0 ≤ i ∧ nl = false ∧ te.size = sz ∧ els[i.toNat]? = some d)
            | _ => none
          | none => none
        | none => none
      | _ => none
    | none => none
  | _ => none
def optEq : Option Nat → Option Nat → Bool
  | none, none => true
  | some a, some b => eqb a b
  | _, _ => false
/-- Is it a store into this object? -/
def storesIn (C : Cfg) (gT : Nat → D) (o : Op) (k : Nat) : Bool := match o with
  | .store _ x _ => match zD C gT x with
    | .lref k' _ _ _ => eqb k' k
    | _ => false
  | _ => false
def opO (C : Cfg) (S : Sm) (gT : Nat → D) (objs : List (Nat × Ob)) (nxt : Nat) (o : Oper) (ors : List Ora) (acc : List Prop) : Option (Out × List Ora × List Prop) := match ors with
  | .op t r :: ors' => match optEq o.dst t with
    | true => some (r, ors', (evOp C S gT objs nxt o = some r) :: acc)
    | false => match evOp C dead gT objs nxt o with
      | some r' => some (r', .op t r :: ors', acc)
      | none => none
  | .stS k r :: ors' => match storesIn C gT o.op k with
    | true => some (r, ors', (evOp C S gT objs nxt o = some r) :: acc)
    | false => match evOp C dead gT objs nxt o with
      | some r' => some (r', .stS k r :: ors', acc)
      | none => none
  | .pure d :: ors' => match pureO C S gT objs nxt o.op d with
    | some (r, P) => some (r, ors', P :: acc)
    | none => match evOp C dead gT objs nxt o with
      | some r => some (r, .pure d :: ors', acc)
      | none => none
  | .pureS d fl a :: ors' => match pureSO C S gT objs nxt o.op d fl a with
    | some (r, P) => some (r, ors', P :: acc)
    | none => match evOp C dead gT objs nxt o with
      | some r => some (r, .pureS d fl a :: ors', acc)
      | none => none
  | .inl d objs' nxt' :: ors' => match inlO C S gT objs nxt o.op d objs' nxt' with
    | some (r, P) => some (r, ors', P :: acc)
    | none => match evOp C dead gT objs nxt o with
      | some r => some (r, .inl d objs' nxt' :: ors', acc)
      | none => none
  | .inlS ids d objs' nxt' :: ors' => match inlSO C S gT objs nxt o.op ids d objs' nxt' with
    | some (r, P) => some (r, ors', P :: acc)
    | none => match evOp C dead gT objs nxt o with
      | some r => some (r, .inlS ids d objs' nxt' :: ors', acc)
      | none => none
  | .el d :: ors' => match elO C gT nxt o.op d with
    | some (r, P) => some (r, ors', P :: acc)
    | none => match evOp C dead gT objs nxt o with
      | some r => some (r, .el d :: ors', acc)
      | none => none
  | ors' => match evOp C dead gT objs nxt o with
    | some r => some (r, ors', acc)
    | none => none
/-- Is a Bool that it comes to told? -/
def isB (o : Op) : Bool := match o with
  | .binOp _ _ _ _ _ => true
  | .call _ => true
  | .extract _ _ => true
  | .field _ _ _ => true
  | .load _ _ => true
  | .index _ _ _ => true
  | _ => false
def boolOf (d : D) : Option Bool := match d with
  | .val v => match v with
    | .bool t => some t
    | _ => none
  | _ => none
def decO (o : Oper) (d : D) (ors : List Ora) (acc : List Prop) : D × List Ora × List Prop := match ors with
  | .rw t d' :: ors' => match optEq o.dst (some t) with
    | true => (d', ors', (d = d') :: acc)
    | false => (d, .rw t d' :: ors', acc)
  | .dec b :: ors' => match isB o.op with
    | true => match boolOf d with
      | some t => (B b, ors', (t = b) :: acc)
      | none => (d, .dec b :: ors', acc)
    | false => (d, .dec b :: ors', acc)
  | ors' => (d, ors', acc)
def evOpsO (C : Cfg) (S : Sm) (ops : Array Oper) : List Oper → St → List Ora → List Prop → Option (St × List Ora × List Prop)
  | [], st, ors, acc => some (st, ors, acc)
  | o :: l, st, ors, acc => match wantD ops (get st.tmps) o.guard with
    | some true => match opO C S (get st.tmps) st.objs st.nxt o ors acc with
      | some (r, ors1, acc1) => match decO o r.d ors1 acc1 with
        | (d, ors2, acc2) => evOpsO C S ops l ⟨st.n, putT st.n st.tmps o.dst d, applyUpd r.wr st.objs, r.nxt, st.pin⟩ ors2 acc2
      | none => none
    | some false => evOpsO C S ops l ⟨st.n, putT st.n st.tmps o.dst (.tup []), st.objs, st.nxt, st.pin⟩ ors acc
    | none => none
def evOpsTO (C : Cfg) (S : Sm) (ops : Array Oper) : List Oper → St → List Ora → List Prop → Option (St × Trace × List Ora × List Prop)
  | [], st, ors, acc => some (st, [], ors, acc)
  | o :: l, st, ors, acc => match wantD ops (get st.tmps) o.guard with
    | some true => match opO C S (get st.tmps) st.objs st.nxt o ors acc with
      | some (r, ors1, acc1) => match decO o r.d ors1 acc1 with
        | (d, ors2, acc2) => match evOpsTO C S ops l ⟨st.n, putT st.n st.tmps o.dst d, applyUpd r.wr st.objs, r.nxt, st.pin⟩ ors2 acc2 with
          | some (st', tr, ors3, acc3) => some (st', (r.rd, r.wr.map (·.1)) :: tr, ors3, acc3)
          | none => none
      | none => none
    | some false => match evOpsTO C S ops l ⟨st.n, putT st.n st.tmps o.dst (.tup []), st.objs, st.nxt, st.pin⟩ ors acc with
      | some (st', tr, ors3, acc3) => some (st', ([], []) :: tr, ors3, acc3)
      | none => none
    | none => none
def evCodeO (C : Cfg) (S : Sm) (f : FuncId) : Code → St → List Ora → List Prop → Option (Exit × St × List Ora × List Prop)
  | .skip, st, ors, acc => some (.normal, st, ors, acc)
  | .label _, st, ors, acc => some (.normal, st, ors, acc)
  | .ret, st, ors, acc => some (.ret, st, ors, acc)
  | .exit id, st, ors, acc => some (.exit id, st, ors, acc)
  | .region _ ops draw, st, ors, acc => match draw with
    | true => match evOpsTO C S ops ops.toList st ors acc with
      | some (st', tr, ors', acc') => match regOK ops && traceOK ops tr with
        | true => some (.normal, st', ors', acc')
        | false => none
      | none => none
    | false => match evOpsO C S ops ops.toList st ors acc with
      | some (st', ors', acc') => some (.normal, st', ors', acc')
      | none => none
  | .seq a b, st, ors, acc => match evCodeO C S f a st ors acc with
    | some (.normal, st', ors', acc') => evCodeO C S f b st' ors' acc'
    | r => r
  | .cond c a b, st, ors, acc => match boolOf (zD C (get st.tmps) c) with
    | some true => evCodeO C S f a st ors acc
    | some false => evCodeO C S f b st ors acc
    | none => none
  | .block id a, st, ors, acc => match evCodeO C S f a st ors acc with
    | some (.exit id', st', ors', acc') => match eqb id' id with
      | true => some (.normal, st', ors', acc')
      | false => some (.exit id', st', ors', acc')
    | r => r
  | .loop a, st, ors, acc => match ors with
    | .loop e st' :: ors' => match gc (C.keep f (firstRegion a)) st with
      | some st1 => some (e, st', ors', (S.loop f a st1 = some (e, st')) :: acc)
      | none => none
    | .gloop st1 e st' :: ors' => some (e, st', ors', (S.loop f a st1 = some (e, st')) :: (gc (C.keep f (firstRegion a)) st = some st1) :: acc)
    | _ => none
  | .scope a, st, ors, acc => match evCodeO C S f a st ors acc with
    | some (.goto _, _, _, _) => none
    | r => r
  | .rangeFunc g ps assign body, st, ors, acc => match noRange assign && noRange body with
    | true => match zD C (get st.tmps) g with
      | .fn g first captured => match g with
        | .func K => match C.fn K with
          | some _ => match ors with
            | .iter objs' nxt' p :: ors' => match exitOf p with
              | some e => some (e, ⟨st.n, st.tmps, objs', nxt', st.pin⟩, ors', (S.iter ⟨f, st.nxt, st.n, st.tmps, ps.toList, assign, body⟩ K (first ++ [.yld st.nxt] ++ captured) st.objs (st.nxt + 1) = some (objs', nxt', p)) :: acc)
              | none => none
            | _ => none
          | none => none
        | _ => none
      | _ => none
    | false => none
  | _, _, _, _ => none

section
variable {C : Cfg} {S : Sm} {gT : Nat → D} {objs : List (Nat × Ob)} {nxt : Nat}
theorem pureO_sound {o : Oper} {d : D} {r : Out} {P : Prop} (h : pureO C S gT objs nxt o.op d = some (r, P)) (hp : P) : evOp C S gT objs nxt o = some r := by
  unfold pureO at h
  unfold evOp
  split at h
  · rename_i c ho
    simp only [ho]
    unfold callD
    split at h
    · rename_i f hf
      simp only [hf]
      split at h
      · rename_i g first captured hg
        simp only [hg]
        split at h
        · rename_i K
          simp only []
          split at h
          · rename_i fn hfn
            unfold zw
            simp only [hfn]
            split at h
            · cases h
            · rename_i hi
              rw [hi]
              simp only [Bool.false_eq_true, if_false]
              unfold zl
              split at h
              · rename_i args' ids hs
                split at h
                · cases h
                  rw [hs]
                  simp only [hp, freeze, ite_self]
                · cases h
                  rw [hs]
                  simp only [hp]
              · cases h
          · cases h
        · cases h
      · cases h
    · cases h
  · cases h
theorem pureSO_sound {o : Oper} {d : D} {fl : Bool} {a : SA} {r : Out} {P : Prop} (h : pureSO C S gT objs nxt o.op d fl a = some (r, P)) (hp : P) : evOp C S gT objs nxt o = some r := by
  unfold pureSO at h
  unfold evOp
  split at h
  · rename_i c ho
    simp only [ho]
    unfold callD
    split at h
    · rename_i f hf
      simp only [hf]
      split at h
      · rename_i g first captured hg
        simp only [hg]
        split at h
        · rename_i K
          simp only []
          split at h
          · rename_i fn hfn
            unfold zw
            simp only [hfn]
            split at h
            · cases h
            · rename_i hi
              rw [hi]
              simp only [Bool.false_eq_true, if_false]
              unfold zl
              split at h
              · rename_i args' ids a' p hs
                cases h
                obtain ⟨h1, h2, h3⟩ := hp
                obtain ⟨h4, _⟩ := snapAllP_sound (fun d a p d' r a' p' h hp => snapP_sound fuelD d a p d' r a' p' h hp) _ _ _ _ _ _ _ hs h2
                rw [h4]
                simp only [h3, h1]
                cases fl <;> rfl
              · cases h
          · cases h
        · cases h
      · cases h
    · cases h
  · cases h
theorem inlO_sound {o : Oper} {d : D} {objs' : List (Nat × Ob)} {nxt' : Nat} {r : Out} {P : Prop} (h : inlO C S gT objs nxt o.op d objs' nxt' = some (r, P)) (hp : P) : evOp C S gT objs nxt o = some r := by
  unfold inlO at h
  unfold evOp
  split at h
  · rename_i c ho
    simp only [ho]
    unfold callD
    split at h
    · rename_i f hf
      simp only [hf]
      split at h
      · rename_i g first captured hg
        simp only [hg]
        split at h
        · rename_i K
          simp only []
          split at h
          · rename_i fn hfn
            unfold zw
            simp only [hfn]
            split at h
            · cases h
            · rename_i hi
              rw [hi]
              simp only [if_true]
              unfold zU
              split at h
              · rename_i l hl
                rw [hl]
                simp only []
                split at h
                · rename_i ids hids
                  rw [hids]
                  simp only []
                  split at h
                  · rename_i hb
                    rw [hb]
                    split at h
                    · rename_i hlt
                      cases h
                      simp only [cond_true, hp, hlt, cond_false]
                    · cases h
                  · cases h
                · cases h
              · cases h
          · cases h
        · cases h
      · cases h
    · cases h
  · cases h
theorem inlSO_sound {o : Oper} {ids : List Nat} {d : D} {objs' : List (Nat × Ob)} {nxt' : Nat} {r : Out} {P : Prop} (h : inlSO C S gT objs nxt o.op ids d objs' nxt' = some (r, P)) (hp : P) : evOp C S gT objs nxt o = some r := by
  unfold inlSO at h
  unfold evOp
  split at h
  · rename_i c ho
    simp only [ho]
    unfold callD
    split at h
    · rename_i f hf
      simp only [hf]
      split at h
      · rename_i g first captured hg
        simp only [hg]
        split at h
        · rename_i K
          simp only []
          split at h
          · rename_i fn hfn
            unfold zw
            simp only [hfn]
            split at h
            · cases h
            · rename_i hi
              rw [hi]
              simp only [if_true]
              unfold zU
              split at h
              · rename_i l hl
                rw [hl]
                simp only []
                split at h
                · rename_i hb
                  split at h
                  · rename_i hlt
                    cases h
                    rw [hp.1]
                    simp only [hb, cond_true, hp.2, hlt, cond_false]
                  · cases h
                · cases h
              · cases h
          · cases h
        · cases h
      · cases h
    · cases h
  · cases h
theorem elO_sound {o : Oper} {d : D} {r : Out} {P : Prop} (h : elO C gT nxt o.op d = some (r, P)) (hp : P) : evOp C S gT objs nxt o = some r := by
  unfold elO at h
  unfold evOp
  split at h
  · rename_i t x ix ho
    simp only [ho]
    unfold evIndexAddr
    split at h
    · rename_i ty hty
      simp only [hty]
      split at h
      · rename_i e hk
        split at h
        · rename_i te hte
          split at h
          · rename_i i hi
            simp only [hi]
            split at h
            · rename_i nl els sz cap hx
              cases h
              obtain ⟨h1, h2, h3, h4⟩ := hp
              rw [if_pos h1]
              simp only [hk, hte, hx, ixSlice, h2, h3, Bool.not_false, decide_true, Bool.and_self, if_true, h4, just]
            · cases h
          · cases h
        · cases h
      · cases h
    · cases h
  · cases h
theorem dead_evOp {o : Oper} {r : Out} (h : evOp C dead gT objs nxt o = some r) : evOp C S gT objs nxt o = some r := evOp_mono (dead_le S) h
theorem opO_sound {o : Oper} {ors ors' : List Ora} {acc acc' : List Prop} {r : Out} (h : opO C S gT objs nxt o ors acc = some (r, ors', acc')) (hp : allP acc') : evOp C S gT objs nxt o = some r ∧ allP acc := by
  unfold opO at h
  split at h
  · split at h
    · cases h; exact ⟨hp.1, hp.2⟩
    · split at h
      · rename_i h1; cases h; exact ⟨dead_evOp h1, hp⟩
      · cases h
  · split at h
    · cases h; exact ⟨hp.1, hp.2⟩
    · split at h
      · rename_i h1; cases h; exact ⟨dead_evOp h1, hp⟩
      · cases h
  · split at h
    · rename_i h1; cases h; exact ⟨pureO_sound h1 hp.1, hp.2⟩
    · split at h
      · rename_i h1; cases h; exact ⟨dead_evOp h1, hp⟩
      · cases h
  · split at h
    · rename_i h1; cases h; exact ⟨pureSO_sound h1 hp.1, hp.2⟩
    · split at h
      · rename_i h1; cases h; exact ⟨dead_evOp h1, hp⟩
      · cases h
  · split at h
    · rename_i h1; cases h; exact ⟨inlO_sound h1 hp.1, hp.2⟩
    · split at h
      · rename_i h1; cases h; exact ⟨dead_evOp h1, hp⟩
      · cases h
  · split at h
    · rename_i h1; cases h; exact ⟨inlSO_sound h1 hp.1, hp.2⟩
    · split at h
      · rename_i h1; cases h; exact ⟨dead_evOp h1, hp⟩
      · cases h
  · split at h
    · rename_i h1; cases h; exact ⟨elO_sound h1 hp.1, hp.2⟩
    · split at h
      · rename_i h1; cases h; exact ⟨dead_evOp h1, hp⟩
      · cases h
  · split at h
    · rename_i h1; cases h; exact ⟨dead_evOp h1, hp⟩
    · cases h
theorem boolOf_some {d : D} {t : Bool} (h : boolOf d = some t) : d = .val (.bool t) := by
  unfold boolOf at h
  split at h
  · split at h
    · cases h; rfl
    · cases h
  · cases h
theorem decO_sound {o : Oper} {d d' : D} {ors ors' : List Ora} {acc acc' : List Prop} (h : decO o d ors acc = (d', ors', acc')) (hp : allP acc') : d' = d ∧ allP acc := by
  unfold decO at h
  split at h
  · split at h
    · cases h; exact ⟨hp.1.symm, hp.2⟩
    · cases h; exact ⟨rfl, hp⟩
  · split at h
    · split at h
      · rename_i t ht
        cases h
        rw [boolOf_some ht, hp.1]; exact ⟨rfl, hp.2⟩
      · cases h; exact ⟨rfl, hp⟩
    · cases h; exact ⟨rfl, hp⟩
  · cases h; exact ⟨rfl, hp⟩
theorem evOpsO_sound {ops : Array Oper} : ∀ (l : List Oper) (st st' : St) (ors ors' : List Ora) (acc acc' : List Prop), evOpsO C S ops l st ors acc = some (st', ors', acc') → allP acc' → evOps C S ops l st = some st' ∧ allP acc
  | [], _, _, _, _, _, _, h, hp => by simp only [evOpsO, Option.some.injEq, Prod.mk.injEq] at h; obtain ⟨rfl, rfl, rfl⟩ := h; exact ⟨rfl, hp⟩
  | o :: l, st, st', ors, ors', acc, acc', h, hp => by
    simp only [evOpsO] at h
    simp only [evOps]
    split at h
    · rename_i hw
      split at h
      · rename_i r ors1 acc1 hop
        obtain ⟨d, ors2, acc2, hdec⟩ : ∃ d o2 a2, decO o r.d ors1 acc1 = (d, o2, a2) := ⟨_, _, _, rfl⟩
        rw [hdec] at h
        simp only [] at h
        obtain ⟨h1, h2⟩ := evOpsO_sound l _ _ _ _ _ _ h hp
        obtain ⟨rfl, h3⟩ := decO_sound hdec h2
        obtain ⟨h4, h5⟩ := opO_sound hop h3
        simp only [hw, h4]
        exact ⟨h1, h5⟩
      · cases h
    · rename_i hw
      obtain ⟨h1, h2⟩ := evOpsO_sound l _ _ _ _ _ _ h hp
      simp only [hw]
      exact ⟨h1, h2⟩
    · cases h
theorem evOpsTO_sound {ops : Array Oper} : ∀ (l : List Oper) (st st' : St) (tr : Trace) (ors ors' : List Ora) (acc acc' : List Prop), evOpsTO C S ops l st ors acc = some (st', tr, ors', acc') → allP acc' → evOpsT C S ops l st = some (st', tr) ∧ allP acc
  | [], _, _, _, _, _, _, _, h, hp => by simp only [evOpsTO, Option.some.injEq, Prod.mk.injEq] at h; obtain ⟨rfl, rfl, rfl, rfl⟩ := h; exact ⟨rfl, hp⟩
  | o :: l, st, st', tr, ors, ors', acc, acc', h, hp => by
    simp only [evOpsTO] at h
    simp only [evOpsT]
    split at h
    · rename_i hw
      split at h
      · rename_i r ors1 acc1 hop
        obtain ⟨d, ors2, acc2, hdec⟩ : ∃ d o2 a2, decO o r.d ors1 acc1 = (d, o2, a2) := ⟨_, _, _, rfl⟩
        rw [hdec] at h
        simp only [] at h
        split at h
        · rename_i st1 tr1 ors3 acc3 hrest
          cases h
          obtain ⟨h1, h2⟩ := evOpsTO_sound l _ _ _ _ _ _ _ hrest hp
          obtain ⟨rfl, h3⟩ := decO_sound hdec h2
          obtain ⟨h4, h5⟩ := opO_sound hop h3
          simp only [hw, h4, h1]
          exact ⟨trivial, h5⟩
        · cases h
      · cases h
    · rename_i hw
      split at h
      · rename_i st1 tr1 ors3 acc3 hrest
        cases h
        obtain ⟨h1, h2⟩ := evOpsTO_sound l _ _ _ _ _ _ _ hrest hp
        simp only [hw, h1]
        exact ⟨trivial, h2⟩
      · cases h
    · cases h
theorem evCodeO_sound {f : FuncId} : ∀ (c : Code) (st : St) (e : Exit) (st' : St) (ors ors' : List Ora) (acc acc' : List Prop), evCodeO C S f c st ors acc = some (e, st', ors', acc') → allP acc' → zK C S f c st = some (e, st') ∧ allP acc := by
  intro c
  induction c with
  | region id ops draw =>
    intro st e st' ors ors' acc acc' h hp
    simp only [evCodeO] at h
    simp only [zK]
    split at h
    · split at h
      · rename_i st1 tr ors1 acc1 h1
        split at h
        · rename_i hc
          cases h
          obtain ⟨h2, h3⟩ := evOpsTO_sound _ _ _ _ _ _ _ _ h1 hp
          simp only [if_true, h2, hc]
          exact ⟨trivial, h3⟩
        · cases h
      · cases h
    · split at h
      · rename_i st1 ors1 acc1 h1
        cases h
        obtain ⟨h2, h3⟩ := evOpsO_sound _ _ _ _ _ _ _ h1 hp
        simp only [Bool.false_eq_true, if_false, h2]
        exact ⟨trivial, h3⟩
      · cases h
  | seq x y ihx ihy =>
    intro st e st' ors ors' acc acc' h hp
    simp only [evCodeO] at h
    simp only [zK]
    split at h
    · rename_i st1 ors1 acc1 h1
      obtain ⟨h2, h3⟩ := ihy _ _ _ _ _ _ _ h hp
      obtain ⟨h4, h5⟩ := ihx _ _ _ _ _ _ _ h1 h3
      simp only [h4]
      exact ⟨h2, h5⟩
    · rename_i hn
      obtain ⟨h4, h5⟩ := ihx _ _ _ _ _ _ _ h hp
      rw [h4]
      refine ⟨?_, h5⟩
      split
      · rename_i st1 h6
        cases h6
        exact absurd h (hn _ _ _)
      · rfl
  | cond c x y ihx ihy =>
    intro st e st' ors ors' acc acc' h hp
    simp only [evCodeO] at h
    simp only [zK]
    split at h
    · rename_i ht
      rw [boolOf_some ht]
      exact ihx _ _ _ _ _ _ _ h hp
    · rename_i ht
      rw [boolOf_some ht]
      exact ihy _ _ _ _ _ _ _ h hp
    · cases h
  | block id x ih =>
    intro st e st' ors ors' acc acc' h hp
    simp only [evCodeO] at h
    simp only [zK]
    split at h
    · rename_i id' st1 ors1 acc1 h1
      split at h
      · rename_i hid
        cases h
        obtain ⟨h4, h5⟩ := ih _ _ _ _ _ _ _ h1 hp
        rw [h4]
        exact ⟨by simp only [eqb_iff.1 hid, if_true], h5⟩
      · rename_i hid
        cases h
        obtain ⟨h4, h5⟩ := ih _ _ _ _ _ _ _ h1 hp
        rw [h4]
        exact ⟨by simp only [eqb_false.1 hid, if_false], h5⟩
    · rename_i hn
      obtain ⟨h4, h5⟩ := ih _ _ _ _ _ _ _ h hp
      rw [h4]
      refine ⟨?_, h5⟩
      split
      · rename_i id' st1 h6
        cases h6
        exact absurd h (hn _ _ _ _)
      · rfl
  | loop x ih =>
    intro st e st' ors ors' acc acc' h hp
    simp only [evCodeO] at h
    simp only [zK]
    split at h
    · split at h
      · rename_i st1 hg
        cases h
        rw [hg]
        exact ⟨hp.1, hp.2⟩
      · cases h
    · cases h
      rw [hp.2.1]
      exact ⟨hp.1, hp.2.2⟩
    · cases h
  | scope x ih =>
    intro st e st' ors ors' acc acc' h hp
    simp only [evCodeO] at h
    simp only [zK]
    split at h
    · cases h
    · rename_i hn
      obtain ⟨h4, h5⟩ := ih _ _ _ _ _ _ _ h hp
      rw [h4]
      refine ⟨?_, h5⟩
      split
      · rename_i l st1 h6
        cases h6
        exact absurd h (hn _ _ _ _)
      · rfl
  | rangeFunc g ps x y ihx ihy =>
    intro st e st' ors ors' acc acc' h hp
    simp only [evCodeO] at h
    simp only [zK]
    split at h
    · rename_i hnr
      rw [if_pos hnr]
      split at h
      · rename_i g' first captured hg
        simp only [hg]
        split at h
        · rename_i K
          simp only []
          split at h
          · rename_i fn hfn
            simp only [hfn]
            split at h
            · rename_i objs' nxt' p ors1
              split at h
              · rename_i e1 he
                cases h
                rw [hp.1]
                simp only [he]
                exact ⟨trivial, hp.2⟩
              · cases h
            · cases h
          · cases h
        · cases h
      · cases h
    · cases h
  | skip => intro st e st' ors ors' acc acc' h hp; simp only [evCodeO, Option.some.injEq, Prod.mk.injEq] at h; obtain ⟨rfl, rfl, rfl, rfl⟩ := h; exact ⟨rfl, hp⟩
  | label l => intro st e st' ors ors' acc acc' h hp; simp only [evCodeO, Option.some.injEq, Prod.mk.injEq] at h; obtain ⟨rfl, rfl, rfl, rfl⟩ := h; exact ⟨rfl, hp⟩
  | ret => intro st e st' ors ors' acc acc' h hp; simp only [evCodeO, Option.some.injEq, Prod.mk.injEq] at h; obtain ⟨rfl, rfl, rfl, rfl⟩ := h; exact ⟨rfl, hp⟩
  | exit id => intro st e st' ors ors' acc acc' h hp; simp only [evCodeO, Option.some.injEq, Prod.mk.injEq] at h; obtain ⟨rfl, rfl, rfl, rfl⟩ := h; exact ⟨rfl, hp⟩
  | _ => intro st e st' ors ors' acc acc' h hp; simp only [evCodeO] at h; cases h
end

/-! ### functions, loops -/
/-- A function's end. -/
def endO (C : Cfg) (fn : Func) (e : Exit) (st : St) : Option (D × List (Nat × Ob) × Nat) := match e with
  | .normal => match resAll C st fn.results.toList with | some ds => some (tupOf ds, st.objs, st.nxt) | none => none
  | .ret => match resAll C st fn.results.toList with | some ds => some (tupOf ds, st.objs, st.nxt) | none => none
  | _ => none
def fnO (C : Cfg) (S : Sm) (K : FuncId) (args : List D) (objs : List (Nat × Ob)) (nxt : Nat) (ors : List Ora) : Option (D × List (Nat × Ob) × Nat × List Prop) := match C.fn K with
  | some fn => match fn.body with
    | some c => match evCodeO C S K c ⟨max fn.ntmps args.length, number 0 args, objs, nxt, nxt⟩ ors [] with
      | some (e, st, [], acc) => match endO C fn e st with
        | some (d, objs', nxt') => some (d, objs', nxt', acc)
        | none => none
      | _ => none
    | none => none
  | none => none
def fnPO (C : Cfg) (S : Sm) (K : FuncId) (args : List D) (ors : List Ora) : Option (D × Prop) := match C.ext K with
  | some _ => none
  | none => match fnO C S K args [] 0 ors with
    | some (d, objs, _, acc) => match snap (zE objs) fuelD d with
      | some (d, _) => some (d, allP acc)
      | none => none
    | none => none
def fnSO (C : Cfg) (S : Sm) (K : FuncId) (args : List D) (ors : List Ora) (a : SA) : Option (D × Prop) := match C.ext K with
  | some _ => none
  | none => match fnO C S K args [] 0 ors with
    | some (d, objs, _, acc) => match snapP (zE objs) fuelD d a acc with
      | some (d, _, _, acc) => some (d, allP acc)
      | none => none
    | none => none
def fnIO (C : Cfg) (S : Sm) (K : FuncId) (args : List D) (objs : List (Nat × Ob)) (nxt : Nat) (ors : List Ora) : Option (D × List (Nat × Ob) × Nat × Prop) := match C.xinl K with
  | some _ => none
  | none => match fnO C S K args objs nxt ors with
    | some (d, objs', nxt', acc) => some (d, objs', nxt', allP acc)
    | none => none
section
variable {C : Cfg} {K : FuncId} {args : List D} {objs objs' : List (Nat × Ob)} {nxt nxt' : Nat} {d : D} {acc : List Prop} {P : Prop}
theorem fnO_sound {S : Sm} {ors : List Ora} (h : fnO C S K args objs nxt ors = some (d, objs', nxt', acc)) (hp : allP acc) : runFn C S K args objs nxt = some (d, objs', nxt') := by
  unfold fnO at h
  unfold runFn
  split at h
  · rename_i fn hfn
    split at h
    · rename_i c hc
      simp only [hfn, hc]
      split at h
      · rename_i e st acc1 hev
        split at h
        · rename_i d1 objs1 nxt1 he
          cases h
          obtain ⟨h1, _⟩ := evCodeO_sound _ _ _ _ _ _ _ _ hev hp
          rw [h1]
          cases e <;> first | exact he | (simp only [endO] at he; cases he)
        · cases h
      · cases h
    · cases h
  · cases h
/-- A function on deep values, by one way through it. -/
theorem zh (ors : List Ora) (hp : P) (h : fnPO C (lim C) K args ors = some (d, P)) : (lim C).pure K args = some d := by
  refine pure_of ?_
  unfold fnPO at h
  unfold runPure
  split at h
  · cases h
  · rename_i hx
    simp only [hx]
    split at h
    · rename_i d0 objs0 n0 acc0 h0
      split at h
      · rename_i d1 r1 hs
        cases h
        rw [fnO_sound h0 hp]
        simp only [hs]
      · cases h
    · cases h
/-- The same, rows of the answer being told. -/
theorem po_pureS (ors : List Ora) (a : SA) (hp : P) (h : fnSO C (lim C) K args ors a = some (d, P)) : (lim C).pure K args = some d := by
  refine pure_of ?_
  unfold fnSO at h
  unfold runPure
  split at h
  · cases h
  · rename_i hx
    simp only [hx]
    split at h
    · rename_i d0 objs0 n0 acc0 h0
      split at h
      · rename_i d1 r1 a1 p1 hs
        cases h
        obtain ⟨h1, h2⟩ := snapP_sound _ _ _ _ _ _ _ _ hs hp
        rw [fnO_sound h0 h2]
        simp only [h1]
      · cases h
    · cases h
theorem po_inl (ors : List Ora) (hp : P) (h : fnIO C (lim C) K args objs nxt ors = some (d, objs', nxt', P)) : (lim C).inl K args objs nxt = some (d, objs', nxt') := by
  refine inl_of ?_
  unfold fnIO at h
  unfold runInl
  split at h
  · cases h
  · rename_i hx
    simp only [hx]
    split at h
    · rename_i h0
      cases h
      exact fnO_sound h0 hp
    · cases h
end
/-- A round of a loop that goes on, up to the loop's head. -/
def turnO (C : Cfg) (S : Sm) (f : FuncId) (a : Code) (st : St) (ors : List Ora) : Option (St × Prop) := match evCodeO C S f a st ors [] with
  | some (.normal, st', [], acc) => match gc (C.keep f (firstRegion a)) st' with
    | some st1 => some (st1, allP acc)
    | none => none
  | _ => none
/-- The same, short of the head. -/
def roundO (C : Cfg) (S : Sm) (f : FuncId) (a : Code) (st : St) (ors : List Ora) : Option (St × Prop) := match evCodeO C S f a st ors [] with
  | some (.normal, st', [], acc) => some (st', allP acc)
  | _ => none
def isNormal : Exit → Bool
  | .normal => true
  | _ => false
/-- A round that leaves the loop. -/
def lastO (C : Cfg) (S : Sm) (f : FuncId) (a : Code) (st : St) (ors : List Ora) : Option (Exit × St × Prop) := match evCodeO C S f a st ors [] with
  | some (e, st', [], acc) => match isNormal e with
    | true => none
    | false => some (e, st', allP acc)
  | _ => none
section
variable {C : Cfg} {f : FuncId} {a : Code} {st st1 st' : St} {e : Exit} {q : Exit × St} {P : Prop}
theorem po_turn (ors : List Ora) (hp : P) (hl : (lim C).loop f a st1 = some q) (h : turnO C (lim C) f a st ors = some (st1, P)) : (lim C).loop f a st = some q := by
  refine loop_of ?_
  unfold turnO at h
  unfold runLoop
  split at h
  · rename_i st2 acc2 hev
    split at h
    · rename_i st3 hg
      cases h
      rw [(evCodeO_sound _ _ _ _ _ _ _ _ hev hp).1]
      simp only [hg, hl]
    · cases h
  · cases h
/-- The same, the head's state being shown apart. -/
theorem po_turn' {ks : List Nat} (ors : List Ora) (hp : P) (hk : C.keep f (firstRegion a) = ks) (hg : gc ks st' = some st1) (hl : (lim C).loop f a st1 = some q) (h : roundO C (lim C) f a st ors = some (st', P)) : (lim C).loop f a st = some q := by
  refine loop_of ?_
  unfold roundO at h
  unfold runLoop
  split at h
  · rename_i st2 acc2 hev
    cases h
    rw [(evCodeO_sound _ _ _ _ _ _ _ _ hev hp).1]
    simp only [hk, hg, hl]
  · cases h
theorem gc_of {ks : List Nat} (hk : C.keep f (firstRegion a) = ks) (hg : gc ks st = some st1) : gc (C.keep f (firstRegion a)) st = some st1 := by rw [hk]; exact hg
theorem zH (ors : List Ora) (hp : P) (h : lastO C (lim C) f a st ors = some (e, st', P)) : (lim C).loop f a st = some (e, st') := by
  refine loop_of ?_
  unfold lastO at h
  unfold runLoop
  split at h
  · rename_i e1 st2 acc2 hev
    split at h
    · cases h
    · rename_i hn
      cases h
      rw [(evCodeO_sound _ _ _ _ _ _ _ _ hev hp).1]
      cases e <;> first | rfl | (simp [isNormal] at hn)
  · cases h
theorem po_lr {S : Sm} {α : Type} {L v : α} {q : α → Exit × St} (h : S.loop f a st = some (q L)) (e : L = v) : S.loop f a st = some (q v) := by rw [← e]; exact h
end

/-! ### slices; counters -/
/-- A slice: is it nil; its elements. -/
structure GS (α : Type) where
  nl : Bool
  l : List α
  wf : nl = true → l = []
def GS.nil {α : Type} : GS α := ⟨true, [], (fun _ => rfl)⟩
def GS.some {α : Type} (l : List α) : GS α := ⟨false, l, (fun h => by cases h)⟩
def zsl (b : Bool) (n : Nat) : Nat := match b with | true => 0 | false => n
def GS.D {α : Type} (f : α → VS.D) (k : Nat) (s : GS α) : VS.D := .sl s.nl (s.l.map f) (zsl s.nl k) none
abbrev w64 (n : Int) : Int := IntKind.i64.wrap n
theorem zn {α : Type} (f : α → VS.D) (s : GS α) : I (if s.nl then 0 else (((s.l.map f).length : Nat) : Int)) = I ((s.l.length : Nat) : Int) := by
  cases h : s.nl with
  | true => rw [s.wf h]; simp
  | false => simp
theorem w64_eq {n : Int} (h1 : -9223372036854775808 ≤ n) (h2 : n ≤ 9223372036854775807) : w64 n = n := by
  unfold w64 IntKind.wrap
  have hb : IntKind.i64.bits = 64 := rfl
  simp only [hb]
  first
  | (simp [IntKind.signed]; omega)
  | omega
theorem inc_rw {i : Nat} (h : i < 9223372036854775807) : I (w64 (((i : Nat) : Int) + 1)) = I (((i + 1 : Nat) : Nat) : Int) := by rw [w64_eq (by omega) (by omega)]; rfl
/-- An element in its place. -/
theorem el_at {α : Type} {f : α → VS.D} {s : GS α} {x : α} {rest : List α} {i k : Nat} (h : s.l.drop i = x :: rest) : (0 : Int) ≤ ((i : Nat) : Int) ∧ s.nl = false ∧ k = zsl s.nl k ∧ (s.l.map f)[((i : Nat) : Int).toNat]? = Option.some (f x) := by
  have hx : s.l[i]? = Option.some x := by rw [← List.head?_drop, h]; rfl
  have hn : s.nl = false := by
    cases hn : s.nl with
    | false => rfl
    | true => rw [s.wf hn] at hx; cases hx
  refine ⟨Int.natCast_nonneg _, hn, by rw [hn]; rfl, ?_⟩
  rw [Int.toNat_natCast, List.getElem?_map, hx]; rfl
theorem lt_at {α : Type} {l : List α} {x : α} {rest : List α} {i : Nat} (h : l.drop i = x :: rest) : decide (((i : Nat) : Int) < ((l.length : Nat) : Int)) = true := by
  have hlt : i < l.length := by
    rcases Nat.lt_or_ge i l.length with hh | hh
    · exact hh
    · rw [List.drop_eq_nil_of_le hh] at h; cases h
  exact decide_eq_true (by omega)
theorem lt_no {α : Type} {l : List α} {i : Nat} (h : l.drop i = []) : decide (((i : Nat) : Int) < ((l.length : Nat) : Int)) = false := by
  have := List.drop_eq_nil_iff.1 h
  exact decide_eq_false (by omega)
theorem zA {α : Type} {l : List α} {x : α} {rest : List α} {i : Nat} (h : l.drop i = x :: rest) : l.drop (i + 1) = rest := by rw [← List.drop_drop, h]; rfl
theorem zv {α : Type} {l : List α} {x : α} {rest : List α} {i : Nat} (h : l.drop i = x :: rest) : i < l.length := by
  rcases Nat.lt_or_ge i l.length with hh | hh
  · exact hh
  · rw [List.drop_eq_nil_of_le hh] at h; cases h
end Go.VS
/-
  VS, part V2: rows that grow; what Bools say. (A text of this claim's own; nothing of it is trusted.)
-/
namespace Go.VS
open Go
def zV (a b : Int) : Int := if b < a then b else a
def imax (a b : Int) : Int := if b > a then b else a
theorem imin_eq (a b : Int) : zV a b = min a b := by unfold zV; omega
theorem imax_eq (a b : Int) : imax a b = max a b := by unfold imax; omega
theorem y0 {a b : Int} (h : (a != b) = true) : a ≠ b := by simpa using h
theorem zF {a b : Int} (h : (a != b) = false) : a = b := by simpa using h
theorem nil_eq {α : Type} {l : List α} {i : Nat} (h : l.drop i = []) (hi : i ≤ l.length) : i = l.length := by
  have := List.drop_eq_nil_iff.1 h
  omega
theorem zN : EncOK 1 I := ⟨fun _ _ _ => rfl, fun _ _ => rfl, fun _ _ _ => rfl, fun _ => ⟨rfl, rfl⟩⟩
theorem z8 (n : Int) : w64 n = (n + 9223372036854775808) % 18446744073709551616 - 9223372036854775808 := by
  unfold w64 IntKind.wrap
  have hb : IntKind.i64.bits = 64 := rfl
  simp only [hb]
  simp [IntKind.signed]
  omega
theorem ct_at {n : Int} {i k : Nat} (h : (n - ((i : Nat) : Int)).toNat = k + 1) : decide (((i : Nat) : Int) < n) = true := decide_eq_true (by omega)
theorem ct_no {n : Int} {i : Nat} (h : (n - ((i : Nat) : Int)).toNat = 0) : decide (((i : Nat) : Int) < n) = false := decide_eq_false (by omega)
instance {α : Type} : Inhabited (GS α) := ⟨GS.nil⟩
def GS.at {α : Type} [Inhabited α] (s : GS α) (i : Int) : α := s.l.getD i.toNat default
/-- An element at a place. -/
theorem el_in {α : Type} [Inhabited α] {f : α → VS.D} {s : GS α} {k : Nat} {i : Int} (h0 : 0 ≤ i) (h1 : i < ((s.l.length : Nat) : Int)) : (0 : Int) ≤ i ∧ s.nl = false ∧ k = zsl s.nl k ∧ (s.l.map f)[i.toNat]? = Option.some (f (s.at i)) := by
  have hlt : i.toNat < s.l.length := by omega
  have hn : s.nl = false := by
    cases hn : s.nl with
    | false => rfl
    | true => rw [s.wf hn] at hlt; simp at hlt
  refine ⟨h0, hn, by rw [hn]; rfl, ?_⟩
  rw [List.getElem?_map, List.getElem?_eq_getElem hlt, GS.at, List.getD_eq_getElem?_getD, List.getElem?_eq_getElem hlt]; rfl
theorem at_of {α : Type} [Inhabited α] {s : GS α} {x : α} {rest : List α} {i : Nat} (h : s.l.drop i = x :: rest) : s.at ((i : Nat) : Int) = x := by
  have hx : s.l[i]? = Option.some x := by rw [← List.head?_drop, h]; rfl
  rw [GS.at, Int.toNat_natCast, List.getD_eq_getElem?_getD, hx]; rfl
theorem mem_drop {α : Type} {l : List α} {x : α} {rest : List α} {i : Nat} (h : l.drop i = x :: rest) : x ∈ l := List.mem_of_mem_drop (by rw [h]; simp)
theorem nil_eql {C : Cfg} {t : TypeId} {cst nl b : Bool} {els : List D} {sz nxt : Nat} {cap : Option Nat} (h : nl = b) (hk : kindCode C t = 2) : justO nxt (binD C t cst .eql (.sl nl els sz cap) (.sl true [] 0 none)) = some ⟨B b, [], [], nxt⟩ := by
  subst h
  cases nl <;> simp [binD, binNil, nilKind, hk, neqOf, justO]
theorem nil_neq {C : Cfg} {t : TypeId} {cst nl b : Bool} {els : List D} {sz nxt : Nat} {cap : Option Nat} (h : nl = b) (hk : kindCode C t = 2) : justO nxt (binD C t cst .neq (.sl nl els sz cap) (.sl true [] 0 none)) = some ⟨B (!b), [], [], nxt⟩ := by
  subst h
  cases nl <;> simp [binD, binNil, nilKind, hk, neqOf, justO]
/-- An element appended to a row. -/
theorem app_row {α : Type} {f : α → D} {te : Ty} {gO : Nat → Option Ob} {nxt o o2 sz : Nat} {fz : Bool} (EO : EncOK sz f) (l : List α) (x : α) (h1 : gO o = some ⟨l.map f, sz, false⟩) (h2 : gO o2 = some ⟨[f x], sz, fz⟩) (h3 : te.size = sz) (h4 : zeroOk te = true) (h5 : 0 < te.size)
    (hb : (l.length + 1) * te.bytes ≤ big ∧ l.length + 1 ≤ big) :
    appendE te gO nxt (.lsl o 0 l.length sz none) (.lsl o2 0 1 sz (some 1)) = some ⟨.lsl nxt 0 (l ++ [x]).length sz none, [(o, none), (nxt, some ⟨(l ++ [x]).map f, sz, false⟩)], [o, o2], nxt + 1⟩ := by
  have e1 : elemsD gO (.lsl o2 0 1 sz (some 1)) = some ([f x], sz, [o2]) := by
    simp [elemsD, h2]
  unfold appendE
  rw [e1]
  simp only [List.isEmpty, Bool.false_eq_true, if_false, h3, decide_true, Bool.true_and, h4, h1]
  have e2 : allOk sz [f x] = true := by simp only [allOk, (EO.ok x).1, (EO.ok x).2, decide_true, Bool.and_self]
  have e3 : allOk sz (List.map f l) = true := EO.allOk l
  have h5' : 0 < sz := h3 ▸ h5
  have e4 : List.take l.length (List.map f l) = List.map f l := by rw [List.take_of_length_le]; simp
  simp only [e2, h5', decide_true, Bool.and_self, if_true, List.length_map, Nat.zero_add, Nat.le_refl, appLsl, hb.1, hb.2, Bool.not_false, List.length_cons, List.length_nil, e4]
  rw [if_neg (by omega)]
  simp [h3, e3]
theorem row_get {α : Type} [Inhabited α] {f : α → VS.D} {l : List α} {n : Nat} (h : n < l.length) : (l.map f)[n]? = Option.some (f (l.getD n default)) := by
  rw [List.getElem?_map, List.getElem?_eq_getElem h, List.getD_eq_getElem?_getD, List.getElem?_eq_getElem h]; rfl
theorem row_at {α : Type} {f : α → VS.D} {l : List α} {x : α} {rest : List α} {i : Nat} (h : l.drop i = x :: rest) : (l.map f)[i]? = Option.some (f x) := by
  have hx : l[i]? = Option.some x := by rw [← List.head?_drop, h]; rfl
  rw [List.getElem?_map, hx]; rfl
theorem lt_at' {α : Type} {l : List α} {x : α} {rest : List α} {i n : Nat} (h : l.drop i = x :: rest) (e : l.length = n) : decide (((i : Nat) : Int) < ((n : Nat) : Int)) = true := by rw [← e]; exact lt_at h
theorem lt_no' {α : Type} {l : List α} {i n : Nat} (h : l.drop i = []) (e : l.length = n) : decide (((i : Nat) : Int) < ((n : Nat) : Int)) = false := by rw [← e]; exact lt_no h
theorem GS.some_l {α : Type} {l : List α} : (GS.some l).l = l := rfl
theorem row_set {α : Type} {f : α → VS.D} {l : List α} {n : Nat} {y : α} : (l.map f).set n (f y) = (l.set n y).map f := by
  rw [List.map_set]
theorem idx_row {C : Cfg} {nxt : Nat} {t : TypeId} {ty te : Ty} {e : TypeId} {o len sz : Nat} {cap : Option Nat} {i : Int} (h1 : C.ty t = Option.some ty) (h2 : ty.kind = .slice e) (h3 : C.ty e = Option.some te) (h4 : te.size = sz) (h5 : 0 ≤ i) (h6 : i < ((len : Nat) : Int)) :
    evIndexAddr C nxt t (.lsl o 0 len sz cap) (I i) = Option.some ⟨.lref o i.toNat sz 0, [], [], nxt⟩ := by
  have hlt : i.toNat < len := by omega
  simp [evIndexAddr, h1, intOfD, h5, h2, h3, ixSlice, h4, hlt, just]
theorem load_row {C : Cfg} {objs : List (Nat × Ob)} {nxt : Nat} {t : TypeId} {ty : Ty} {o n sz sub : Nat} {ob : Ob} {e d : VS.D} (h1 : C.ty t = Option.some ty) (h2 : zE objs o = Option.some ob) (h3 : ob.sz = sz) (h4 : ob.els[n]? = Option.some e) (h5 : partD ty sub e = Option.some d) :
    evLoad C objs nxt t (.lref o n sz sub) = Option.some ⟨d, [], [o], nxt⟩ := by
  simp [evLoad, h1, elAt, h2, h3, eqb_iff.2, h4, h5]
theorem store_row {C : Cfg} {objs : List (Nat × Ob)} {nxt : Nat} {t : TypeId} {ty : Ty} {o n sz sub : Nat} {els els' : List VS.D} {e e' v : VS.D} (h1 : C.ty t = Option.some ty) (h2 : zE objs o = Option.some ⟨els, sz, false⟩) (h4 : els[n]? = Option.some e) (h5 : v.okCells = true) (h6 : v.cells.length = ty.size) (h7 : e.okCells = true)
    (h8 : setPart sub e v = Option.some e') (h9 : els.set n e' = els') : evStore C objs nxt t (.lref o n sz sub) v = Option.some ⟨.tup [], [(o, Option.some ⟨els', sz, false⟩)], [o], nxt⟩ := by
  simp [evStore, h1, elAt, h2, eqb_iff.2, h4, h5, h6, h7, h8, h9]
/-- All of a deep slice behind an empty row. -/
theorem app_deep {α : Type} {f : α → VS.D} {te : Ty} {gO : Nat → Option Ob} {nxt o sz : Nat} {fz : Bool} (EO : EncOK sz f) (s : GS α) (hne : s.l ≠ []) (hn : s.nl = false) (h1 : gO o = Option.some ⟨[], sz, fz⟩) (h3 : te.size = sz) (h4 : zeroOk te = true) (h5 : 0 < te.size) (hb : s.l.length * te.bytes ≤ big ∧ s.l.length ≤ big) :
    appendE te gO nxt (.lsl o 0 0 sz (Option.some 0)) (GS.D f sz s) = Option.some ⟨.lsl nxt 0 s.l.length sz none, [(nxt, Option.some ⟨s.l.map f, sz, false⟩)], [o], nxt + 1⟩ := by
  unfold GS.D
  rw [hn]
  have e3 : allOk sz (List.map f s.l) = true := EO.allOk s.l
  have h5' : 0 < sz := h3 ▸ h5
  have hpos : 0 < s.l.length := List.length_pos_iff.2 hne
  have hemp : (List.map f s.l).isEmpty = false := by
    cases hl : s.l with
    | nil => exact absurd hl hne
    | cons a b => rfl
  simp [appendE, elemsD, zsl, hemp, h3, e3, h4, h5', h1, appLsl, hpos, allOk, newRow, hb.1, hb.2, newOb]
/-- A copy of a row. -/
theorem snap_row {α : Type} {f : α → D} {gO : Nat → Option Ob} {o len sz : Nat} {cap : Option Nat} {fz : Bool} (EO : EncOK sz f) (l : List α) (h1 : gO o = Option.some ⟨l.map f, sz, fz⟩) (h2 : l.length = len) : ∀ n, snap gO (n + 3) (.lsl o 0 len sz cap) = Option.some (.sl false (l.map f) sz none, [o]) := by
  intro n
  subst h2
  have e4 : List.take l.length (List.map f l) = List.map f l := by rw [List.take_of_length_le]; simp
  rw [snap]
  simp only [h1, decide_true, Bool.true_and, Nat.zero_add, List.length_map, Nat.le_refl, if_true, List.drop_zero, e4, EO.snapAll]
theorem ne_of_len {α : Type} {l : List α} (h : 0 < l.length) : l ≠ [] := List.length_pos_iff.1 h
theorem nonnil {α : Type} {s : GS α} (h : s.l ≠ []) : s.nl = false := by
  cases hn : s.nl with
  | false => rfl
  | true => exact absurd (s.wf hn) h
theorem pure_op {C : Cfg} {S : Sm} {objs : List (Nat × Ob)} {nxt : Nat} {K : FuncId} {args args' : List VS.D} {ids : List Nat} {d : VS.D} {wr : List Upd} (hs : snapAll (snap (zE objs) fuelD) args = Option.some (args', ids)) (hp : S.pure K args' = Option.some d) (hw : (if flat fuelD d then [] else freeze (zE objs) ids) = wr) :
    zl S objs nxt K args = Option.some ⟨d, wr, ids, nxt⟩ := by
  unfold zl
  simp only [hs, hp, hw]
end Go.VS
