/- Nothing of a statement is proved in this text alone: it is part 2 of the proof's own tools, an evaluator of the code over deep values, its soundness, and what it makes of this seat's functions. Conditions: none beyond the statement's own. -/
import Derived.Test.YtnifoeahomkdlaaVsOFz1
import Derived.KernelRfl
import Derived.Test.YtnifoeahomkdlaaProg
import Derived.Shelf.SlLaysF0
import Derived.Ground.SlsfProg
import Derived.Shelf.SlGeneric
import Derived.OpenShut
import Derived.Deep.Slices
import Derived.ChangeStays
import Derived.ReadAgain
import Derived.ChangeSame
import Derived.ChangeBears2
import Derived.Shelf.GgSortFunc.InsertionK
set_option linter.unusedSimpArgs false
set_option linter.unusedVariables false
/-
  VS, part N: the evaluator without fuel. (A text of this claim's own; nothing of it is trusted.)
-/
namespace Go.VS
open Go

structure Le (S S' : Sm) : Prop where
  pure : ∀ K args d, S.pure K args = some d → S'.pure K args = some d
  inl : ∀ K args objs nxt r, S.inl K args objs nxt = some r → S'.inl K args objs nxt = some r
  loop : ∀ f c st r, S.loop f c st = some r → S'.loop f c st = some r
  loopY : ∀ R f c st r, S.loopY R f c st = some r → S'.loopY R f c st = some r
  iter : ∀ R K args objs nxt r, S.iter R K args objs nxt = some r → S'.iter R K args objs nxt = some r
theorem Le.refl (S : Sm) : Le S S := ⟨fun _ _ _ h => h, fun _ _ _ _ _ h => h, fun _ _ _ _ h => h, fun _ _ _ _ _ h => h, fun _ _ _ _ _ _ h => h⟩
theorem Le.trans {a b c : Sm} (h : Le a b) (k : Le b c) : Le a c := ⟨fun _ _ _ x => k.pure _ _ _ (h.pure _ _ _ x), fun _ _ _ _ _ x => k.inl _ _ _ _ _ (h.inl _ _ _ _ _ x), fun _ _ _ _ x => k.loop _ _ _ _ (h.loop _ _ _ _ x),
  fun _ _ _ _ _ x => k.loopY _ _ _ _ _ (h.loopY _ _ _ _ _ x), fun _ _ _ _ _ _ x => k.iter _ _ _ _ _ _ (h.iter _ _ _ _ _ _ x)⟩

section
variable {C : Cfg} {S S' : Sm}
theorem callD_mono (h : Le S S') {gT : Nat → D} {objs : List (Nat × Ob)} {nxt : Nat} {c : Call} {r : Out} (hr : callD C S gT objs nxt c = some r) : callD C S' gT objs nxt c = some r := by
  unfold callD at hr ⊢
  split at hr
  · rename_i b hb; exact hr
  · rename_i f hf
    try simp only [hf]
    split at hr
    · rename_i g first captured hg
      try simp only [hg]
      split at hr
      · try simp only []
        unfold zm at hr ⊢
        split at hr
        · rename_i fn hfn
          try simp only [hfn]
          split at hr
          · rename_i hi
            try simp only [if_pos hi]
            unfold callInl at hr ⊢
            split at hr
            · rename_i l hl
              try simp only [hl]
              split at hr
              · rename_i ids hids
                try simp only [hids]
                cases hb : allBelow nxt ids with
                | false => rw [hb] at hr; cases hr
                | true =>
                  rw [hb] at hr
                  simp only [cond_true] at hr ⊢
                  split at hr
                  · rename_i d objs' nxt' hinl
                    rw [h.inl _ _ _ _ _ hinl]; exact hr
                  · cases hr
              · cases hr
            · cases hr
          · rename_i hi
            try simp only [if_neg hi]
            unfold zd at hr ⊢
            split at hr
            · rename_i args' ids hs
              try simp only [hs]
              split at hr
              · rename_i d hd
                rw [h.pure _ _ _ hd]; exact hr
              · cases hr
            · cases hr
        · cases hr
      · cases hr
    · cases hr
  · cases hr
theorem evOp_mono (h : Le S S') {gT : Nat → D} {objs : List (Nat × Ob)} {nxt : Nat} {o : Oper} {r : Out} (hr : evOp C S gT objs nxt o = some r) : evOp C S' gT objs nxt o = some r := by
  unfold evOp at hr ⊢
  split at hr
  all_goals first | exact hr | (cases hr; done) | exact callD_mono h hr
theorem evOps_mono (h : Le S S') {ops : Array Oper} : ∀ (l : List Oper) (st st' : St), evOps C S ops l st = some st' → evOps C S' ops l st = some st'
  | [], _, _, hr => hr
  | o :: l, st, st', hr => by
    simp only [evOps] at hr ⊢
    split at hr
    · rename_i hw
      try simp only [hw]
      split at hr
      · rename_i r hop
        rw [evOp_mono h hop]
        exact evOps_mono h l _ _ hr
      · cases hr
    · rename_i hw
      try simp only [hw]
      exact evOps_mono h l _ _ hr
    · cases hr
theorem evOpsT_mono (h : Le S S') {ops : Array Oper} : ∀ (l : List Oper) (st : St) (r : St × Trace), evOpsT C S ops l st = some r → evOpsT C S' ops l st = some r
  | [], _, _, hr => hr
  | o :: l, st, r, hr => by
    simp only [evOpsT] at hr ⊢
    split at hr
    · rename_i hw
      try simp only [hw]
      split at hr
      · rename_i r1 hop
        rw [evOp_mono h hop]
        try simp only []
        split at hr
        · rename_i h1
          rw [evOpsT_mono h l _ _ h1]; exact hr
        · cases hr
      · cases hr
    · rename_i hw
      try simp only [hw]
      split at hr
      · rename_i h1
        rw [evOpsT_mono h l _ _ h1]; exact hr
      · cases hr
    · cases hr
theorem evCode_mono (h : Le S S') {f : FuncId} : ∀ (c : Code) (st : St) (r : Exit × St), ya C S f c st = some r → ya C S' f c st = some r := by
  intro c
  induction c with
  | region id ops draw =>
    intro st r hr
    simp only [ya] at hr ⊢
    split at hr
    · rename_i hd
      try rw [if_pos hd]
      split at hr
      · rename_i h1
        rw [evOpsT_mono h _ _ _ h1]; exact hr
      · cases hr
    · rename_i hd
      try rw [if_neg hd]
      split at hr
      · rename_i h1
        rw [evOps_mono h _ _ _ h1]; exact hr
      · cases hr
  | seq x y ihx ihy =>
    intro st r hr
    simp only [ya] at hr ⊢
    split at hr
    · rename_i st1 h1
      rw [ihx _ _ h1]; exact ihy _ _ hr
    · rename_i hn
      have := ihx _ _ hr
      rw [this]
      split
      · rename_i st1 h1
        cases h1
        exact absurd hr (hn _)
      · rfl
  | cond c x y ihx ihy =>
    intro st r hr
    simp only [ya] at hr ⊢
    split at hr
    · rename_i t ht
      try rw [ht]
      try simp only []
      split at hr
      · rename_i h1; rw [if_pos h1]; exact ihx _ _ hr
      · rename_i h1; rw [if_neg h1]; exact ihy _ _ hr
    · cases hr
  | block id x ih =>
    intro st r hr
    simp only [ya] at hr ⊢
    split at hr
    · rename_i id' st1 h1
      rw [ih _ _ h1]; exact hr
    · rename_i hn
      have := ih _ _ hr
      rw [this]
      split
      · rename_i id' st1 h1
        cases h1
        exact absurd hr (hn _ _)
      · rfl
  | loop x ih =>
    intro st r hr
    simp only [ya] at hr ⊢
    split at hr
    · rename_i st1 h1
      exact h.loop _ _ _ _ hr
    · cases hr
  | scope x ih =>
    intro st r hr
    simp only [ya] at hr ⊢
    split at hr
    · cases hr
    · rename_i hn
      have := ih _ _ hr
      rw [this]
      split
      · rename_i l st1 h1
        cases h1
        exact absurd hr (hn _ _)
      · rfl
  | rangeFunc g ps x y _ _ =>
    intro st r hr
    simp only [ya] at hr ⊢
    split at hr
    · rename_i hnr
      rw [if_pos hnr]
      split at hr
      · rename_i K first captured hg
        try simp only [hg]
        split at hr
        · rename_i fn hfn
          try simp only [hfn]
          split at hr
          · rename_i objs' nxt' p hit
            rw [h.iter _ _ _ _ _ _ hit]; exact hr
          · cases hr
        · cases hr
      · cases hr
    · cases hr
  | _ => intro st r hr; simp only [ya] at hr ⊢; exact hr
theorem evRound_mono (h : Le S S') {R : Rnd} {args : List D} {objs : List (Nat × Ob)} {nxt : Nat} {r : Exit × St} (hr : evRound C S R args objs nxt = some r) : evRound C S' R args objs nxt = some r := by
  unfold evRound at hr ⊢
  split at hr
  · rename_i hl
    rw [if_pos hl]
    split at hr
    · rename_i st1 h1
      rw [evCode_mono h _ _ _ h1]; exact evCode_mono h _ _ _ hr
    · cases hr
  · cases hr
theorem evOpsY_mono (h : Le S S') {R : Rnd} {ops : Array Oper} : ∀ (l : List Oper) (st : St) (r : St × Option Code), evOpsY C S R ops l st = some r → evOpsY C S' R ops l st = some r
  | [], _, _, hr => hr
  | o :: l, st, r, hr => by
    simp only [evOpsY] at hr ⊢
    split at hr
    · rename_i hw
      try simp only [hw]
      split at hr
      · rename_i args hy
        try simp only [hy]
        split at hr
        · rename_i s1 h1
          rw [evRound_mono h h1]; exact evOpsY_mono h l _ _ hr
        · rename_i s1 h1
          rw [evRound_mono h h1]
          try simp only []
          split at hr
          · rename_i s2 h2
            rw [evOps_mono h _ _ _ h2]; exact hr
          · cases hr
        · rename_i id s1 h1
          rw [evRound_mono h h1]
          try simp only []
          split at hr
          · rename_i s2 h2
            rw [evOps_mono h _ _ _ h2]; exact hr
          · cases hr
        · cases hr
      · rename_i hy
        try simp only [hy]
        split at hr
        · rename_i r1 hop
          rw [evOp_mono h hop]; exact evOpsY_mono h l _ _ hr
        · cases hr
    · rename_i hw
      try simp only [hw]
      exact evOpsY_mono h l _ _ hr
    · cases hr
theorem withP_some {p : Option Code} {r : Option (Exit × St)} {q : Exit × St × Option Code} (h : withP p r = some q) : ∃ e st, r = some (e, st) ∧ q = (e, st, p) := by
  unfold withP at h
  split at h
  · cases h; exact ⟨_, _, rfl, rfl⟩
  · cases h
theorem evCodeY_mono (h : Le S S') {R : Rnd} {f : FuncId} : ∀ (c : Code) (st : St) (r : Exit × St × Option Code), y7 C S R f c st = some r → y7 C S' R f c st = some r := by
  intro c
  induction c with
  | region id ops draw =>
    intro st r hr
    simp only [y7] at hr ⊢
    split at hr
    · rename_i hd
      rw [if_pos hd]
      obtain ⟨e, st1, h1, rfl⟩ := withP_some hr
      rw [evCode_mono h _ _ _ h1]; rfl
    · rename_i hd
      rw [if_neg hd]
      split at hr
      · rename_i h1
        rw [evOpsY_mono h _ _ _ h1]; exact hr
      · cases hr
  | seq x y ihx ihy =>
    intro st r hr
    simp only [y7] at hr ⊢
    split at hr
    · rename_i st1 h1
      rw [ihx _ _ h1]; exact ihy _ _ hr
    · rename_i st1 p1 h1
      rw [ihx _ _ h1]
      obtain ⟨e, st2, h2, rfl⟩ := withP_some hr
      simp only [evCode_mono h _ _ _ h2]; rfl
    · rename_i hn1 hn2
      have := ihx _ _ hr
      rw [this]
      split
      · rename_i st1 h1
        cases h1
        exact absurd hr (hn1 _)
      · rename_i st1 p1 h1
        cases h1
        exact absurd hr (hn2 _ _)
      · rfl
  | cond c x y ihx ihy =>
    intro st r hr
    simp only [y7] at hr ⊢
    split at hr
    · rename_i t ht
      try rw [ht]
      try simp only []
      split at hr
      · rename_i h1; rw [if_pos h1]; exact ihx _ _ hr
      · rename_i h1; rw [if_neg h1]; exact ihy _ _ hr
    · cases hr
  | block id x ih =>
    intro st r hr
    simp only [y7] at hr ⊢
    split at hr
    · rename_i id' st1 p1 h1
      rw [ih _ _ h1]; exact hr
    · rename_i hn
      have := ih _ _ hr
      rw [this]
      split
      · rename_i id' st1 p1 h1
        cases h1
        exact absurd hr (hn _ _ _)
      · rfl
  | loop x ih =>
    intro st r hr
    simp only [y7] at hr ⊢
    split at hr
    · rename_i st1 h1
      exact h.loopY _ _ _ _ _ hr
    · cases hr
  | scope x ih =>
    intro st r hr
    simp only [y7] at hr ⊢
    split at hr
    · cases hr
    · rename_i hn
      have := ih _ _ hr
      rw [this]
      split
      · rename_i l st1 p1 h1
        cases h1
        exact absurd hr (hn _ _ _)
      · rfl
  | _ => intro st r hr; simp only [y7] at hr ⊢; exact hr
theorem runLoopY_mono (h : Le S S') {R : Rnd} {f : FuncId} {c : Code} {st : St} {r : Exit × St × Option Code} (hr : runLoopY C S R f c st = some r) : runLoopY C S' R f c st = some r := by
  unfold runLoopY at hr ⊢
  split at hr
  · rename_i st1 h1
    rw [evCodeY_mono h _ _ _ h1]
    try simp only []
    split at hr
    · exact h.loopY _ _ _ _ _ hr
    · cases hr
  · rename_i st1 p1 h1
    rw [evCodeY_mono h _ _ _ h1]
    try simp only []
    split at hr
    · rename_i st2 h2
      obtain ⟨e, st3, h3, rfl⟩ := withP_some hr
      simp only [h.loop _ _ _ _ h3]; rfl
    · cases hr
  · rename_i hn1 hn2
    have := evCodeY_mono h _ _ _ hr
    rw [this]
    split
    · rename_i st1 h1
      cases h1
      exact absurd hr (hn1 _)
    · rename_i st1 p1 h1
      cases h1
      exact absurd hr (hn2 _ _)
    · rfl
theorem runIter_mono (h : Le S S') {R : Rnd} {K : FuncId} {args : List D} {objs : List (Nat × Ob)} {nxt : Nat} {r : List (Nat × Ob) × Nat × Option Code} (hr : runIter C S R K args objs nxt = some r) : runIter C S' R K args objs nxt = some r := by
  unfold runIter at hr ⊢
  split at hr
  · rename_i fn hfn
    split at hr
    · rename_i c hc
      split at hr
      · rename_i st' p' hev; rw [evCodeY_mono h _ _ _ hev]; exact hr
      · rename_i st' p' hev; rw [evCodeY_mono h _ _ _ hev]; exact hr
      · cases hr
    · cases hr
  · cases hr
theorem runFn_mono (h : Le S S') {K : FuncId} {args : List D} {objs : List (Nat × Ob)} {nxt : Nat} {r : D × List (Nat × Ob) × Nat} (hr : runFn C S K args objs nxt = some r) : runFn C S' K args objs nxt = some r := by
  unfold runFn at hr ⊢
  split at hr
  · rename_i fn hfn
    split at hr
    · rename_i c hc
      split at hr
      · rename_i st' hev; rw [evCode_mono h _ _ _ hev]; exact hr
      · rename_i st' hev; rw [evCode_mono h _ _ _ hev]; exact hr
      · cases hr
    · cases hr
  · cases hr
theorem runPure_mono (h : Le S S') {K : FuncId} {args : List D} {d : D} (hr : runPure C S K args = some d) : runPure C S' K args = some d := by
  unfold runPure at hr ⊢
  split at hr
  · exact hr
  · split at hr
    · rename_i d0 objs n hrun
      rw [runFn_mono h hrun]; exact hr
    · cases hr
theorem runInl_mono (h : Le S S') {K : FuncId} {args : List D} {objs : List (Nat × Ob)} {nxt : Nat} {r : D × List (Nat × Ob) × Nat} (hr : runInl C S K args objs nxt = some r) : runInl C S' K args objs nxt = some r := by
  unfold runInl at hr ⊢
  split at hr
  · exact hr
  · exact runFn_mono h hr
theorem runLoop_mono (h : Le S S') {f : FuncId} {c : Code} {st : St} {r : Exit × St} (hr : runLoop C S f c st = some r) : runLoop C S' f c st = some r := by
  unfold runLoop at hr ⊢
  split at hr
  · rename_i st1 h1
    rw [evCode_mono h _ _ _ h1]
    try simp only []
    split at hr
    · exact h.loop _ _ _ _ hr
    · cases hr
  · rename_i hn
    have := evCode_mono h _ _ _ hr
    rw [this]
    split
    · rename_i st1 h1
      cases h1
      exact absurd hr (hn _)
    · rfl
theorem sem_succ : ∀ n, Le (sem C n) (sem C (n + 1))
  | 0 => ⟨fun _ _ _ h => by simp [sem] at h, fun _ _ _ _ _ h => by simp [sem] at h, fun _ _ _ _ h => by simp [sem] at h, fun _ _ _ _ _ h => by simp [sem] at h, fun _ _ _ _ _ _ h => by simp [sem] at h⟩
  | n + 1 => by
    have ih := sem_succ n
    exact ⟨fun _ _ _ h => runPure_mono ih h, fun _ _ _ _ _ h => runInl_mono ih h, fun _ _ _ _ h => runLoop_mono ih h, fun _ _ _ _ _ h => runLoopY_mono ih h, fun _ _ _ _ _ _ h => runIter_mono ih h⟩
theorem sem_le {n k : Nat} (h : n ≤ k) : Le (sem C n) (sem C k) := by
  induction h with
  | refl => exact Le.refl _
  | step _ ih => exact ih.trans (sem_succ _)

/-! ### all of its answers at once -/
open Classical in
noncomputable def anyOf {α : Type} (f : Nat → Option α) : Option α := if h : ∃ x n, f n = some x then some (Classical.choose h) else none
theorem anyOf_some {α : Type} {f : Nat → Option α} (hm : ∀ n k x, n ≤ k → f n = some x → f k = some x) {x : α} : anyOf f = some x ↔ ∃ n, f n = some x := by
  unfold anyOf
  constructor
  · intro h
    split at h
    · rename_i hx
      cases h
      exact Classical.choose_spec hx
    · cases h
  · rintro ⟨n, hn⟩
    have hx : ∃ x n, f n = some x := ⟨x, n, hn⟩
    rw [dif_pos hx]
    obtain ⟨k, hk⟩ := Classical.choose_spec hx
    have h1 := hm n (max n k) x (Nat.le_max_left _ _) hn
    have h2 := hm k (max n k) _ (Nat.le_max_right _ _) hk
    rw [h1] at h2
    exact h2.symm
noncomputable def lim (C : Cfg) : Sm := ⟨fun K args => anyOf fun n => (sem C n).pure K args, fun K args objs nxt => anyOf fun n => (sem C n).inl K args objs nxt, fun f c st => anyOf fun n => (sem C n).loop f c st, fun R f c st => anyOf fun n => (sem C n).loopY R f c st, fun R K args objs nxt => anyOf fun n => (sem C n).iter R K args objs nxt⟩
theorem lim_pure {K : FuncId} {args : List D} {d : D} : (lim C).pure K args = some d ↔ ∃ n, (sem C n).pure K args = some d := anyOf_some fun _ _ _ h hx => (sem_le h).pure _ _ _ hx
theorem lim_inl {K : FuncId} {args : List D} {objs : List (Nat × Ob)} {nxt : Nat} {r : D × List (Nat × Ob) × Nat} : (lim C).inl K args objs nxt = some r ↔ ∃ n, (sem C n).inl K args objs nxt = some r := anyOf_some fun _ _ _ h hx => (sem_le h).inl _ _ _ _ _ hx
theorem lim_loop {f : FuncId} {c : Code} {st : St} {r : Exit × St} : (lim C).loop f c st = some r ↔ ∃ n, (sem C n).loop f c st = some r := anyOf_some fun _ _ _ h hx => (sem_le h).loop _ _ _ _ hx

theorem lim_loopY {R : Rnd} {f : FuncId} {c : Code} {st : St} {r : Exit × St × Option Code} : (lim C).loopY R f c st = some r ↔ ∃ n, (sem C n).loopY R f c st = some r := anyOf_some fun _ _ _ h hx => (sem_le h).loopY _ _ _ _ _ hx
theorem lim_iter {R : Rnd} {K : FuncId} {args : List D} {objs : List (Nat × Ob)} {nxt : Nat} {r : List (Nat × Ob) × Nat × Option Code} : (lim C).iter R K args objs nxt = some r ↔ ∃ n, (sem C n).iter R K args objs nxt = some r := anyOf_some fun _ _ _ h hx => (sem_le h).iter _ _ _ _ _ _ hx

/-! ### each answer needs a part of them only -/
theorem callD_cont {gT : Nat → D} {objs : List (Nat × Ob)} {nxt : Nat} {c : Call} {r : Out} (hr : callD C (lim C) gT objs nxt c = some r) : ∃ n, callD C (sem C n) gT objs nxt c = some r := by
  unfold callD at hr ⊢
  split at hr
  · rename_i b hb; exact ⟨0, hr⟩
  · rename_i f hf
    try simp only [hf]
    split at hr
    · rename_i g first captured hg
      try simp only [hg]
      split at hr
      · try simp only []
        unfold zm at hr ⊢
        split at hr
        · rename_i fn hfn
          try simp only [hfn]
          split at hr
          · rename_i hi
            try simp only [if_pos hi]
            unfold callInl at hr ⊢
            split at hr
            · rename_i l hl
              try simp only [hl]
              split at hr
              · rename_i ids hids
                try simp only [hids]
                cases hb : allBelow nxt ids with
                | false => rw [hb] at hr; cases hr
                | true =>
                  rw [hb] at hr
                  simp only [cond_true] at hr ⊢
                  split at hr
                  · rename_i d objs' nxt' hinl
                    obtain ⟨n, hn⟩ := lim_inl.1 hinl
                    exact ⟨n, by rw [hn]; exact hr⟩
                  · cases hr
              · cases hr
            · cases hr
          · rename_i hi
            try simp only [if_neg hi]
            unfold zd at hr ⊢
            split at hr
            · rename_i args' ids hs
              try simp only [hs]
              split at hr
              · rename_i d hd
                obtain ⟨n, hn⟩ := lim_pure.1 hd
                exact ⟨n, by rw [hn]; exact hr⟩
              · cases hr
            · cases hr
        · cases hr
      · cases hr
    · cases hr
  · cases hr
theorem evOp_cont {gT : Nat → D} {objs : List (Nat × Ob)} {nxt : Nat} {o : Oper} {r : Out} (hr : evOp C (lim C) gT objs nxt o = some r) : ∃ n, evOp C (sem C n) gT objs nxt o = some r := by
  unfold evOp at hr ⊢
  split at hr
  all_goals first | exact callD_cont hr | exact ⟨0, hr⟩
theorem evOps_cont {ops : Array Oper} : ∀ (l : List Oper) (st st' : St), evOps C (lim C) ops l st = some st' → ∃ n, evOps C (sem C n) ops l st = some st'
  | [], _, _, hr => ⟨0, hr⟩
  | o :: l, st, st', hr => by
    simp only [evOps] at hr ⊢
    split at hr
    · rename_i hw
      try simp only [hw]
      split at hr
      · rename_i r hop
        obtain ⟨n, hn⟩ := evOp_cont hop
        obtain ⟨k, hk⟩ := evOps_cont l _ _ hr
        refine ⟨max n k, ?_⟩
        rw [evOp_mono (sem_le (Nat.le_max_left n k)) hn]
        exact evOps_mono (sem_le (Nat.le_max_right n k)) _ _ _ hk
      · cases hr
    · rename_i hw
      try simp only [hw]
      exact evOps_cont l _ _ hr
    · cases hr
theorem evOpsT_cont {ops : Array Oper} : ∀ (l : List Oper) (st : St) (r : St × Trace), evOpsT C (lim C) ops l st = some r → ∃ n, evOpsT C (sem C n) ops l st = some r
  | [], _, _, hr => ⟨0, hr⟩
  | o :: l, st, r, hr => by
    simp only [evOpsT] at hr ⊢
    split at hr
    · rename_i hw
      try simp only [hw]
      split at hr
      · rename_i r1 hop
        split at hr
        · rename_i h1
          obtain ⟨n, hn⟩ := evOp_cont hop
          obtain ⟨k, hk⟩ := evOpsT_cont l _ _ h1
          refine ⟨max n k, ?_⟩
          rw [evOp_mono (sem_le (Nat.le_max_left n k)) hn]
          try simp only []
          rw [evOpsT_mono (sem_le (Nat.le_max_right n k)) _ _ _ hk]
          exact hr
        · cases hr
      · cases hr
    · rename_i hw
      try simp only [hw]
      split at hr
      · rename_i h1
        obtain ⟨k, hk⟩ := evOpsT_cont l _ _ h1
        exact ⟨k, by rw [hk]; exact hr⟩
      · cases hr
    · cases hr
theorem evCode_cont {f : FuncId} : ∀ (c : Code) (st : St) (r : Exit × St), ya C (lim C) f c st = some r → ∃ n, ya C (sem C n) f c st = some r := by
  intro c
  induction c with
  | region id ops draw =>
    intro st r hr
    simp only [ya] at hr ⊢
    split at hr
    · rename_i hd
      try simp only [if_pos hd]
      split at hr
      · rename_i h1
        obtain ⟨n, hn⟩ := evOpsT_cont _ _ _ h1
        exact ⟨n, by rw [hn]; exact hr⟩
      · cases hr
    · rename_i hd
      try simp only [if_neg hd]
      split at hr
      · rename_i h1
        obtain ⟨n, hn⟩ := evOps_cont _ _ _ h1
        exact ⟨n, by rw [hn]; exact hr⟩
      · cases hr
  | seq x y ihx ihy =>
    intro st r hr
    simp only [ya] at hr ⊢
    split at hr
    · rename_i st1 h1
      obtain ⟨n, hn⟩ := ihx _ _ h1
      obtain ⟨k, hk⟩ := ihy _ _ hr
      refine ⟨max n k, ?_⟩
      rw [evCode_mono (sem_le (Nat.le_max_left n k)) _ _ _ hn]
      exact evCode_mono (sem_le (Nat.le_max_right n k)) _ _ _ hk
    · rename_i hn
      obtain ⟨n, h1⟩ := ihx _ _ hr
      refine ⟨n, ?_⟩
      rw [h1]
      split
      · rename_i st1 h2
        cases h2
        exact absurd hr (hn _)
      · rfl
  | cond c x y ihx ihy =>
    intro st r hr
    simp only [ya] at hr ⊢
    split at hr
    · rename_i t ht
      try simp only [ht]
      split at hr
      · rename_i h1; simp only [if_pos h1]; exact ihx _ _ hr
      · rename_i h1; simp only [if_neg h1]; exact ihy _ _ hr
    · cases hr
  | block id x ih =>
    intro st r hr
    simp only [ya] at hr ⊢
    split at hr
    · rename_i id' st1 h1
      obtain ⟨n, hn⟩ := ih _ _ h1
      exact ⟨n, by rw [hn]; exact hr⟩
    · rename_i hn
      obtain ⟨n, h1⟩ := ih _ _ hr
      refine ⟨n, ?_⟩
      rw [h1]
      split
      · rename_i id' st1 h2
        cases h2
        exact absurd hr (hn _ _)
      · rfl
  | loop x ih =>
    intro st r hr
    simp only [ya] at hr ⊢
    split at hr
    · rename_i st1 h1
      exact lim_loop.1 hr
    · cases hr
  | scope x ih =>
    intro st r hr
    simp only [ya] at hr ⊢
    split at hr
    · cases hr
    · rename_i hn
      obtain ⟨n, h1⟩ := ih _ _ hr
      refine ⟨n, ?_⟩
      rw [h1]
      split
      · rename_i l st1 h2
        cases h2
        exact absurd hr (hn _ _)
      · rfl
  | rangeFunc g ps x y _ _ =>
    intro st r hr
    simp only [ya] at hr ⊢
    split at hr
    · rename_i hnr
      simp only [if_pos hnr]
      split at hr
      · rename_i K first captured hg
        try simp only [hg]
        split at hr
        · rename_i fn hfn
          try simp only [hfn]
          split at hr
          · rename_i objs' nxt' p hit
            obtain ⟨n, hn⟩ := lim_iter.1 hit
            exact ⟨n, by rw [hn]; exact hr⟩
          · cases hr
        · cases hr
      · cases hr
    · cases hr
  | _ => intro st r hr; exact ⟨0, by simp only [ya] at hr ⊢; exact hr⟩
theorem evRound_cont {R : Rnd} {args : List D} {objs : List (Nat × Ob)} {nxt : Nat} {r : Exit × St} (hr : evRound C (lim C) R args objs nxt = some r) : ∃ n, evRound C (sem C n) R args objs nxt = some r := by
  unfold evRound at hr ⊢
  split at hr
  · rename_i hl
    simp only [if_pos hl]
    split at hr
    · rename_i st1 h1
      obtain ⟨n, hn⟩ := evCode_cont _ _ _ h1
      obtain ⟨k, hk⟩ := evCode_cont _ _ _ hr
      refine ⟨max n k, ?_⟩
      rw [evCode_mono (sem_le (Nat.le_max_left n k)) _ _ _ hn]
      exact evCode_mono (sem_le (Nat.le_max_right n k)) _ _ _ hk
    · cases hr
  · cases hr
theorem evOpsY_cont {R : Rnd} {ops : Array Oper} : ∀ (l : List Oper) (st : St) (r : St × Option Code), evOpsY C (lim C) R ops l st = some r → ∃ n, evOpsY C (sem C n) R ops l st = some r
  | [], _, _, hr => ⟨0, hr⟩
  | o :: l, st, r, hr => by
    simp only [evOpsY] at hr ⊢
    split at hr
    · rename_i hw
      try simp only [hw]
      split at hr
      · rename_i args hy
        try simp only [hy]
        split at hr
        · rename_i s1 h1
          obtain ⟨n, hn⟩ := evRound_cont h1
          obtain ⟨k, hk⟩ := evOpsY_cont l _ _ hr
          refine ⟨max n k, ?_⟩
          rw [evRound_mono (sem_le (Nat.le_max_left n k)) hn]
          exact evOpsY_mono (sem_le (Nat.le_max_right n k)) _ _ _ hk
        · rename_i s1 h1
          obtain ⟨n, hn⟩ := evRound_cont h1
          split at hr
          · rename_i s2 h2
            obtain ⟨k, hk⟩ := evOps_cont _ _ _ h2
            refine ⟨max n k, ?_⟩
            rw [evRound_mono (sem_le (Nat.le_max_left n k)) hn]
            try simp only []
            rw [evOps_mono (sem_le (Nat.le_max_right n k)) _ _ _ hk]; exact hr
          · cases hr
        · rename_i id s1 h1
          obtain ⟨n, hn⟩ := evRound_cont h1
          split at hr
          · rename_i s2 h2
            obtain ⟨k, hk⟩ := evOps_cont _ _ _ h2
            refine ⟨max n k, ?_⟩
            rw [evRound_mono (sem_le (Nat.le_max_left n k)) hn]
            try simp only []
            rw [evOps_mono (sem_le (Nat.le_max_right n k)) _ _ _ hk]; exact hr
          · cases hr
        · cases hr
      · rename_i hy
        try simp only [hy]
        split at hr
        · rename_i r1 hop
          obtain ⟨n, hn⟩ := evOp_cont hop
          obtain ⟨k, hk⟩ := evOpsY_cont l _ _ hr
          refine ⟨max n k, ?_⟩
          rw [evOp_mono (sem_le (Nat.le_max_left n k)) hn]
          exact evOpsY_mono (sem_le (Nat.le_max_right n k)) _ _ _ hk
        · cases hr
    · rename_i hw
      try simp only [hw]
      exact evOpsY_cont l _ _ hr
    · cases hr
theorem evCodeY_cont {R : Rnd} {f : FuncId} : ∀ (c : Code) (st : St) (r : Exit × St × Option Code), y7 C (lim C) R f c st = some r → ∃ n, y7 C (sem C n) R f c st = some r := by
  intro c
  induction c with
  | region id ops draw =>
    intro st r hr
    simp only [y7] at hr ⊢
    split at hr
    · rename_i hd
      simp only [if_pos hd]
      obtain ⟨e, st1, h1, rfl⟩ := withP_some hr
      obtain ⟨n, hn⟩ := evCode_cont _ _ _ h1
      exact ⟨n, by rw [hn]; rfl⟩
    · rename_i hd
      simp only [if_neg hd]
      split at hr
      · rename_i h1
        obtain ⟨n, hn⟩ := evOpsY_cont _ _ _ h1
        exact ⟨n, by rw [hn]; exact hr⟩
      · cases hr
  | seq x y ihx ihy =>
    intro st r hr
    simp only [y7] at hr ⊢
    split at hr
    · rename_i st1 h1
      obtain ⟨n, hn⟩ := ihx _ _ h1
      obtain ⟨k, hk⟩ := ihy _ _ hr
      refine ⟨max n k, ?_⟩
      rw [evCodeY_mono (sem_le (Nat.le_max_left n k)) _ _ _ hn]
      exact evCodeY_mono (sem_le (Nat.le_max_right n k)) _ _ _ hk
    · rename_i st1 p1 h1
      obtain ⟨n, hn⟩ := ihx _ _ h1
      obtain ⟨e, st2, h2, rfl⟩ := withP_some hr
      obtain ⟨k, hk⟩ := evCode_cont _ _ _ h2
      refine ⟨max n k, ?_⟩
      rw [evCodeY_mono (sem_le (Nat.le_max_left n k)) _ _ _ hn]
      simp only [evCode_mono (sem_le (Nat.le_max_right n k)) _ _ _ hk]; rfl
    · rename_i hn1 hn2
      obtain ⟨n, h1⟩ := ihx _ _ hr
      refine ⟨n, ?_⟩
      rw [h1]
      split
      · rename_i st1 h2
        cases h2
        exact absurd hr (hn1 _)
      · rename_i st1 p1 h2
        cases h2
        exact absurd hr (hn2 _ _)
      · rfl
  | cond c x y ihx ihy =>
    intro st r hr
    simp only [y7] at hr ⊢
    split at hr
    · rename_i t ht
      try simp only [ht]
      split at hr
      · rename_i h1; simp only [if_pos h1]; exact ihx _ _ hr
      · rename_i h1; simp only [if_neg h1]; exact ihy _ _ hr
    · cases hr
  | block id x ih =>
    intro st r hr
    simp only [y7] at hr ⊢
    split at hr
    · rename_i id' st1 p1 h1
      obtain ⟨n, hn⟩ := ih _ _ h1
      exact ⟨n, by rw [hn]; exact hr⟩
    · rename_i hn
      obtain ⟨n, h1⟩ := ih _ _ hr
      refine ⟨n, ?_⟩
      rw [h1]
      split
      · rename_i id' st1 p1 h2
        cases h2
        exact absurd hr (hn _ _ _)
      · rfl
  | loop x ih =>
    intro st r hr
    simp only [y7] at hr ⊢
    split at hr
    · rename_i st1 h1
      exact lim_loopY.1 hr
    · cases hr
  | scope x ih =>
    intro st r hr
    simp only [y7] at hr ⊢
    split at hr
    · cases hr
    · rename_i hn
      obtain ⟨n, h1⟩ := ih _ _ hr
      refine ⟨n, ?_⟩
      rw [h1]
      split
      · rename_i l st1 p1 h2
        cases h2
        exact absurd hr (hn _ _ _)
      · rfl
  | _ => intro st r hr; exact ⟨0, by simp only [y7] at hr ⊢; exact hr⟩
theorem runIter_cont {R : Rnd} {K : FuncId} {args : List D} {objs : List (Nat × Ob)} {nxt : Nat} {r : List (Nat × Ob) × Nat × Option Code} (hr : runIter C (lim C) R K args objs nxt = some r) : ∃ n, runIter C (sem C n) R K args objs nxt = some r := by
  unfold runIter at hr ⊢
  split at hr
  · rename_i fn hfn
    split at hr
    · rename_i c hc
      split at hr
      · rename_i st' p' hev; obtain ⟨n, hn⟩ := evCodeY_cont _ _ _ hev; exact ⟨n, by rw [hn]; exact hr⟩
      · rename_i st' p' hev; obtain ⟨n, hn⟩ := evCodeY_cont _ _ _ hev; exact ⟨n, by rw [hn]; exact hr⟩
      · cases hr
    · cases hr
  · cases hr
theorem runFn_cont {K : FuncId} {args : List D} {objs : List (Nat × Ob)} {nxt : Nat} {r : D × List (Nat × Ob) × Nat} (hr : runFn C (lim C) K args objs nxt = some r) : ∃ n, runFn C (sem C n) K args objs nxt = some r := by
  unfold runFn at hr ⊢
  split at hr
  · rename_i fn hfn
    split at hr
    · rename_i c hc
      split at hr
      · rename_i st' hev; obtain ⟨n, hn⟩ := evCode_cont _ _ _ hev; exact ⟨n, by rw [hn]; exact hr⟩
      · rename_i st' hev; obtain ⟨n, hn⟩ := evCode_cont _ _ _ hev; exact ⟨n, by rw [hn]; exact hr⟩
      · cases hr
    · cases hr
  · cases hr
/-- What a function comes to, said of all answers at once. -/
theorem pure_of {K : FuncId} {args : List D} {d : D} (hr : runPure C (lim C) K args = some d) : (lim C).pure K args = some d := by
  refine lim_pure.2 ?_
  unfold runPure at hr
  split at hr
  · rename_i g hg
    exact ⟨1, by simp only [sem, runPure, hg]; exact hr⟩
  · rename_i hg
    split at hr
    · rename_i d0 objs n hrun
      obtain ⟨n, hn⟩ := runFn_cont hrun
      exact ⟨n + 1, by simp only [sem, runPure, hg, hn]; exact hr⟩
    · cases hr
theorem inl_of {K : FuncId} {args : List D} {objs : List (Nat × Ob)} {nxt : Nat} {r : D × List (Nat × Ob) × Nat} (hr : runInl C (lim C) K args objs nxt = some r) : (lim C).inl K args objs nxt = some r := by
  refine lim_inl.2 ?_
  unfold runInl at hr
  split at hr
  · rename_i g hg
    exact ⟨1, by simp only [sem, runInl, hg]; exact hr⟩
  · rename_i hg
    obtain ⟨n, hn⟩ := runFn_cont hr
    exact ⟨n + 1, by simp only [sem, runInl, hg, hn]⟩
theorem loop_of {f : FuncId} {c : Code} {st : St} {r : Exit × St} (hr : runLoop C (lim C) f c st = some r) : (lim C).loop f c st = some r := by
  refine lim_loop.2 ?_
  unfold runLoop at hr
  split at hr
  · rename_i st1 h1
    split at hr
    · rename_i st2 h2
      obtain ⟨n, hn⟩ := evCode_cont _ _ _ h1
      obtain ⟨k, hk⟩ := lim_loop.1 hr
      refine ⟨max n k + 1, ?_⟩
      simp only [sem, runLoop]
      rw [evCode_mono (sem_le (Nat.le_max_left n k)) _ _ _ hn]
      simp only [h2]
      exact (sem_le (Nat.le_max_right n k)).loop _ _ _ _ hk
    · cases hr
  · rename_i hn
    obtain ⟨n, h1⟩ := evCode_cont _ _ _ hr
    refine ⟨n + 1, ?_⟩
    simp only [sem, runLoop, h1]
    split
    · rename_i st1 h2
      cases h2
      exact absurd hr (hn _)
    · rfl
theorem iter_of {R : Rnd} {K : FuncId} {args : List D} {objs : List (Nat × Ob)} {nxt : Nat} {r : List (Nat × Ob) × Nat × Option Code} (hr : runIter C (lim C) R K args objs nxt = some r) : (lim C).iter R K args objs nxt = some r := by
  obtain ⟨n, hn⟩ := runIter_cont hr
  exact lim_iter.2 ⟨n + 1, by simp only [sem]; exact hn⟩
theorem loopY_of {R : Rnd} {f : FuncId} {c : Code} {st : St} {r : Exit × St × Option Code} (hr : runLoopY C (lim C) R f c st = some r) : (lim C).loopY R f c st = some r := by
  refine lim_loopY.2 ?_
  unfold runLoopY at hr
  split at hr
  · rename_i st1 h1
    split at hr
    · rename_i st2 h2
      obtain ⟨n, hn⟩ := evCodeY_cont _ _ _ h1
      obtain ⟨k, hk⟩ := lim_loopY.1 hr
      refine ⟨max n k + 1, ?_⟩
      simp only [sem, runLoopY]
      rw [evCodeY_mono (sem_le (Nat.le_max_left n k)) _ _ _ hn]
      simp only [h2]
      exact (sem_le (Nat.le_max_right n k)).loopY _ _ _ _ _ hk
    · cases hr
  · rename_i st1 p1 h1
    split at hr
    · rename_i st2 h2
      obtain ⟨n, hn⟩ := evCodeY_cont _ _ _ h1
      obtain ⟨e, st3, h3, rfl⟩ := withP_some hr
      obtain ⟨k, hk⟩ := lim_loop.1 h3
      refine ⟨max n k + 1, ?_⟩
      simp only [sem, runLoopY]
      rw [evCodeY_mono (sem_le (Nat.le_max_left n k)) _ _ _ hn]
      simp only [h2]
      rw [(sem_le (Nat.le_max_right n k)).loop _ _ _ _ hk]; rfl
    · cases hr
  · rename_i hn1 hn2
    obtain ⟨n, h1⟩ := evCodeY_cont _ _ _ hr
    refine ⟨n + 1, ?_⟩
    simp only [sem, runLoopY, h1]
    split
    · rename_i st1 h2
      cases h2
      exact absurd hr (hn1 _)
    · rename_i st1 p1 h2
      cases h2
      exact absurd hr (hn2 _ _)
    · rfl
/-- What is said of all answers at once, the machine does. -/
theorem lim_sound (hC : CfgOK C) (hX : ExtOK C) {K : FuncId} {args : List D} {d : D} (h : (lim C).pure K args = some d) : PureOK C K args d := by
  obtain ⟨n, hn⟩ := lim_pure.1 h
  exact (sem_sound hC hX n).pure K args d hn
end
end Go.VS

namespace Go.VS
open Go Go.Proofs
noncomputable def ty3 : Ty := ⟨(.int .i64), 1, 8, (.int .i64 0)⟩
theorem ty3_ok : tyOf Try.prog 3 = some ty3 := by kernel_rfl
noncomputable def ty4 : Ty := ⟨.bool, 1, 1, (.bool false)⟩
theorem ty4_ok : tyOf Try.prog 4 = some ty4 := by kernel_rfl
noncomputable def ty5 : Ty := ⟨(.int .u8), 1, 1, (.int .u8 0)⟩
theorem ty5_ok : tyOf Try.prog 5 = some ty5 := by kernel_rfl
noncomputable def ty9 : Ty := ⟨.str, 1, 16, (.string ⟨#[]⟩)⟩
theorem ty9_ok : tyOf Try.prog 9 = some ty9 := by kernel_rfl
noncomputable def ty22 : Ty := ⟨(.slice 70), 1, 24, (.slice none 0 0)⟩
theorem ty22_ok : tyOf Try.prog 22 = some ty22 := by kernel_rfl
noncomputable def ty24 : Ty := ⟨(.struct [(3, 0), (3, 1)]), 2, 16, (.agg #[(.int .i64 0), (.int .i64 0)])⟩
theorem ty24_ok : tyOf Try.prog 24 = some ty24 := by kernel_rfl
noncomputable def ty26 : Ty := ⟨(.struct [(22, 0), (24, 1)]), 3, 40, (.agg #[(.slice none 0 0), (.int .i64 0), (.int .i64 0)])⟩
theorem ty26_ok : tyOf Try.prog 26 = some ty26 := by kernel_rfl
noncomputable def ty27 : Ty := ⟨(.slice 29), 1, 24, (.slice none 0 0)⟩
theorem ty27_ok : tyOf Try.prog 27 = some ty27 := by kernel_rfl
noncomputable def ty29 : Ty := ⟨(.slice 47), 1, 24, (.slice none 0 0)⟩
theorem ty29_ok : tyOf Try.prog 29 = some ty29 := by kernel_rfl
noncomputable def ty31 : Ty := ⟨(.int .i64), 1, 8, (.int .i64 0)⟩
theorem ty31_ok : tyOf Try.prog 31 = some ty31 := by kernel_rfl
noncomputable def ty37 : Ty := ⟨(.slice 3), 1, 24, (.slice none 0 0)⟩
theorem ty37_ok : tyOf Try.prog 37 = some ty37 := by kernel_rfl
noncomputable def ty47 : Ty := ⟨(.arr 2 3), 2, 16, (.agg #[(.int .i64 0), (.int .i64 0)])⟩
theorem ty47_ok : tyOf Try.prog 47 = some ty47 := by kernel_rfl
noncomputable def ty48 : Ty := ⟨.func, 1, 8, .nilFunc⟩
theorem ty48_ok : tyOf Try.prog 48 = some ty48 := by kernel_rfl
noncomputable def ty70 : Ty := ⟨(.struct [(24, 0), (3, 2), (3, 3)]), 4, 32, (.agg #[(.int .i64 0), (.int .i64 0), (.int .i64 0), (.int .i64 0)])⟩
theorem ty70_ok : tyOf Try.prog 70 = some ty70 := by kernel_rfl
noncomputable def ty75 : Ty := ⟨.func, 1, 8, .nilFunc⟩
theorem ty75_ok : tyOf Try.prog 75 = some ty75 := by kernel_rfl
noncomputable def ty86 : Ty := ⟨(.slice 37), 1, 24, (.slice none 0 0)⟩
theorem ty86_ok : tyOf Try.prog 86 = some ty86 := by kernel_rfl
noncomputable def ty94 : Ty := ⟨.func, 1, 8, .nilFunc⟩
theorem ty94_ok : tyOf Try.prog 94 = some ty94 := by kernel_rfl
noncomputable def ty96 : Ty := ⟨(.struct [(94, 0)]), 1, 8, (.agg #[.nilFunc])⟩
theorem ty96_ok : tyOf Try.prog 96 = some ty96 := by kernel_rfl
noncomputable def ty99 : Ty := ⟨(.struct [(24, 0), (3, 2), (24, 3)]), 5, 40, (.agg #[(.int .i64 0), (.int .i64 0), (.int .i64 0), (.int .i64 0), (.int .i64 0)])⟩
theorem ty99_ok : tyOf Try.prog 99 = some ty99 := by kernel_rfl
noncomputable def ty106 : Ty := ⟨.func, 1, 8, .nilFunc⟩
theorem ty106_ok : tyOf Try.prog 106 = some ty106 := by kernel_rfl
noncomputable def ty112 : Ty := ⟨.func, 1, 8, .nilFunc⟩
theorem ty112_ok : tyOf Try.prog 112 = some ty112 := by kernel_rfl
noncomputable def ty121 : Ty := ⟨(.int .u64), 1, 8, (.int .u64 0)⟩
theorem ty121_ok : tyOf Try.prog 121 = some ty121 := by kernel_rfl
noncomputable def ty129 : Ty := ⟨.func, 1, 8, .nilFunc⟩
theorem ty129_ok : tyOf Try.prog 129 = some ty129 := by kernel_rfl
noncomputable def ty132 : Ty := ⟨.func, 1, 8, .nilFunc⟩
theorem ty132_ok : tyOf Try.prog 132 = some ty132 := by kernel_rfl
noncomputable def ty135 : Ty := ⟨(.int .i64), 1, 8, (.int .i64 0)⟩
theorem ty135_ok : tyOf Try.prog 135 = some ty135 := by kernel_rfl
noncomputable def ty144 : Ty := ⟨(.int .u32), 1, 4, (.int .u32 0)⟩
theorem ty144_ok : tyOf Try.prog 144 = some ty144 := by kernel_rfl
noncomputable def ty146 : Ty := ⟨(.int .u64), 1, 8, (.int .u64 0)⟩
theorem ty146_ok : tyOf Try.prog 146 = some ty146 := by kernel_rfl
noncomputable def ty148 : Ty := ⟨(.int .u64), 1, 8, (.int .u64 0)⟩
theorem ty148_ok : tyOf Try.prog 148 = some ty148 := by kernel_rfl
noncomputable def ty152 : Ty := ⟨(.ptr 3), 1, 8, (.pointer none)⟩
theorem ty152_ok : tyOf Try.prog 152 = some ty152 := by kernel_rfl
noncomputable def tyTab : Tr Ty := (.node (.node (.node (.node (.node .nil 3 ty3 .nil) 4 ty4 (.node .nil 5 ty5 .nil)) 9 ty9 (.node (.node .nil 22 ty22 .nil) 24 ty24 (.node .nil 26 ty26 .nil))) 27 ty27 (.node (.node (.node .nil 29 ty29 .nil) 31 ty31 (.node .nil 37 ty37 .nil)) 47 ty47 (.node (.node .nil 48 ty48 .nil) 70 ty70 .nil))) 75 ty75 (.node (.node (.node (.node .nil 86 ty86 .nil) 94 ty94 (.node .nil 96 ty96 .nil)) 99 ty99 (.node (.node .nil 106 ty106 .nil) 112 ty112 (.node .nil 121 ty121 .nil))) 129 ty129 (.node (.node (.node .nil 132 ty132 .nil) 135 ty135 (.node .nil 144 ty144 .nil)) 146 ty146 (.node (.node .nil 148 ty148 .nil) 152 ty152 .nil))))
noncomputable def zK : Tr Func := (.node (.node (.node (.node (.node (.node (.node (.node .nil 2 Try.f2 .nil) 3 Try.f3 .nil) 4 Try.f4 (.node .nil 5 Try.f5 .nil)) 6 Try.f6 (.node (.node .nil 7 Try.f7 .nil) 8 Try.f8 (.node .nil 9 Try.f9 .nil))) 10 Try.f10 (.node (.node (.node .nil 11 Try.f11 .nil) 12 Try.f12 (.node .nil 13 Try.f13 .nil)) 14 Try.f14 (.node (.node .nil 15 Try.f15 .nil) 16 Try.f16 (.node .nil 17 Try.f17 .nil)))) 18 Try.f18 (.node (.node (.node (.node .nil 19 Try.f19 .nil) 20 Try.f20 (.node .nil 21 Try.f21 .nil)) 22 Try.f22 (.node (.node .nil 23 Try.f23 .nil) 24 Try.f24 (.node .nil 25 Try.f25 .nil))) 26 Try.f26 (.node (.node (.node .nil 27 Try.f27 .nil) 28 Try.f28 (.node .nil 29 Try.f29 .nil)) 30 Try.f30 (.node (.node .nil 31 Try.f31 .nil) 32 Try.f32 (.node .nil 33 Try.f33 .nil))))) 34 Try.f34 (.node (.node (.node (.node (.node .nil 35 Try.f35 .nil) 36 Try.f36 (.node .nil 37 Try.f37 .nil)) 38 Try.f38 (.node (.node .nil 39 Try.f39 .nil) 40 Try.f40 (.node .nil 41 Try.f41 .nil))) 42 Try.f42 (.node (.node (.node .nil 43 Try.f43 .nil) 44 Try.f44 (.node .nil 45 Try.f45 .nil)) 46 Try.f46 (.node (.node .nil 47 Try.f47 .nil) 48 Try.f48 (.node .nil 49 Try.f49 .nil)))) 50 Try.f50 (.node (.node (.node (.node .nil 51 Try.f51 .nil) 52 Try.f52 (.node .nil 53 Try.f53 .nil)) 54 Try.f54 (.node (.node .nil 55 Try.f55 .nil) 56 Try.f56 (.node .nil 57 Try.f57 .nil))) 58 Try.f58 (.node (.node (.node .nil 59 Try.f59 .nil) 60 Try.f60 (.node .nil 61 Try.f61 .nil)) 62 Try.f62 (.node (.node .nil 63 Try.f63 .nil) 64 Try.f64 (.node .nil 65 Try.f65 .nil)))))) 66 Try.f66 (.node (.node (.node (.node (.node (.node (.node .nil 67 Try.f67 .nil) 68 Try.f68 .nil) 69 Try.f69 (.node .nil 70 Try.f70 .nil)) 71 Try.f71 (.node (.node .nil 72 Try.f72 .nil) 73 Try.f73 (.node .nil 74 Try.f74 .nil))) 75 Try.f75 (.node (.node (.node .nil 76 Try.f76 .nil) 77 Try.f77 (.node .nil 78 Try.f78 .nil)) 79 Try.f79 (.node (.node .nil 80 Try.f80 .nil) 81 Try.f81 (.node .nil 82 Try.f82 .nil)))) 83 Try.f83 (.node (.node (.node (.node .nil 84 Try.f84 .nil) 85 Try.f85 (.node .nil 86 Try.f86 .nil)) 87 Try.f87 (.node (.node .nil 88 Try.f88 .nil) 89 Try.f89 (.node .nil 90 Try.f90 .nil))) 91 Try.f91 (.node (.node (.node .nil 92 Try.f92 .nil) 93 Try.f93 (.node .nil 94 Try.f94 .nil)) 95 Try.f95 (.node (.node .nil 96 Try.f96 .nil) 97 Try.f97 (.node .nil 98 Try.f98 .nil))))) 99 Try.f99 (.node (.node (.node (.node (.node .nil 100 Try.f100 .nil) 101 Try.f101 (.node .nil 102 Try.f102 .nil)) 103 Try.f103 (.node (.node .nil 104 Try.f104 .nil) 105 Try.f105 (.node .nil 106 Try.f106 .nil))) 107 Try.f107 (.node (.node (.node .nil 108 Try.f108 .nil) 109 Try.f109 (.node .nil 110 Try.f110 .nil)) 111 Try.f111 (.node (.node .nil 112 Try.f112 .nil) 113 Try.f113 (.node .nil 114 Try.f114 .nil)))) 115 Try.f115 (.node (.node (.node (.node .nil 116 Try.f116 .nil) 117 Try.f117 (.node .nil 118 Try.f118 .nil)) 119 Try.f119 (.node (.node .nil 120 Try.f120 .nil) 121 Try.f121 (.node .nil 122 Try.f122 .nil))) 123 Try.f123 (.node (.node (.node .nil 124 Try.f124 .nil) 125 Try.f125 (.node .nil 126 Try.f126 .nil)) 127 Try.f127 (.node (.node .nil 128 Try.f128 .nil) 129 Try.f129 (.node .nil 130 Try.f130 .nil)))))))
noncomputable def keepTab : Tr (Tr (List Nat)) := (.node (.node (.node (.node (.node (.node .nil 3 (.node .nil 5 [1, 2, 5, 16, 17, 18] .nil) .nil) 4 (.node .nil 24 [3, 4, 17, 181, 182, 183] .nil) (.node .nil 6 (.node .nil 19 [4, 5, 14, 17, 23, 24, 144, 145, 146] .nil) .nil)) 9 (.node .nil 12 [1, 2, 7, 11, 12, 14, 15, 73, 74, 75] .nil) (.node (.node .nil 10 (.node (.node (.node .nil 10 [3, 5, 66, 67, 68] .nil) 17 [3, 5, 7, 8, 10, 11, 66, 67, 68, 90, 91, 92] .nil) 22 [3, 5, 10, 11, 66, 67, 68, 114, 115, 116] (.node .nil 28 [3, 5, 10, 66, 67, 68, 152, 153, 154] .nil)) .nil) 11 (.node (.node (.node .nil 18 [1, 2, 3, 4, 5, 11, 13, 19, 129, 130, 131] .nil) 25 [2, 3, 5, 13, 178, 179, 180] .nil) 31 [2, 5, 203, 204, 205] (.node .nil 37 [2, 5, 26, 27, 28, 203, 204, 205, 219, 220, 221] .nil)) (.node .nil 13 (.node .nil 2 [2, 7, 8, 9] .nil) .nil))) 15 (.node .nil 5 [1000000, 1, 4, 5] .nil) (.node (.node (.node .nil 16 (.node .nil 4 [0, 1, 5] .nil) .nil) 19 (.node .nil 4 [1, 3] .nil) (.node .nil 20 (.node .nil 2 [1, 2, 5] .nil) .nil)) 22 (.node .nil 8 [1, 2, 9, 10] .nil) (.node (.node .nil 23 (.node .nil 10 [5, 32, 33] .nil) .nil) 24 (.node .nil 2 [0, 1, 7, 8] .nil) (.node .nil 29 (.node .nil 8 [2, 6, 9, 40, 41, 42] .nil) .nil)))) 31 (.node .nil 5 [1, 2, 5, 6] .nil) (.node (.node (.node (.node .nil 32 (.node .nil 3 [2, 3, 4, 9, 13, 14, 15] .nil) .nil) 33 (.node .nil 8 [2, 6, 21, 22, 23] .nil) (.node .nil 42 (.node .nil 4 [0, 1, 12, 13] .nil) .nil)) 47 (.node .nil 6 [1, 2, 6, 24, 25] .nil) (.node (.node .nil 48 (.node .nil 4 [2, 3, 5] .nil) .nil) 49 (.node (.node .nil 4 [0, 5, 6, 13, 14, 15] .nil) 9 [5, 6, 25, 26, 27] .nil) (.node .nil 51 (.node .nil 4 [0, 1, 12, 13] .nil) .nil))) 52 (.node .nil 4 [0, 1, 5] .nil) (.node (.node (.node .nil 53 (.node .nil 4 [1, 19, 20, 21] .nil) .nil) 54 (.node (.node .nil 3 [1000000, 3, 13, 14, 15] .nil) 7 [3, 5, 6, 13, 14, 15, 28, 29, 30] .nil) (.node .nil 55 (.node .nil 4 [0, 3, 5, 6, 7] .nil) .nil)) 56 (.node .nil 4 [1, 2, 15, 16, 17] .nil) (.node (.node .nil 58 (.node .nil 3 [1, 2, 3, 4] .nil) .nil) 62 (.node .nil 2 [2, 6, 7, 8] .nil) (.node .nil 64 (.node .nil 6 [1, 6, 7, 44, 45, 46] .nil) .nil))))) 65 (.node .nil 3 [3, 6, 7, 8] .nil) (.node (.node (.node (.node (.node .nil 66 (.node .nil 3 [2, 5, 8, 9, 10] .nil) .nil) 67 (.node .nil 3 [3, 5, 6] .nil) (.node .nil 69 (.node .nil 3 [2, 5, 8, 9, 10] .nil) .nil)) 70 (.node .nil 4 [3, 9, 10, 11] .nil) (.node (.node .nil 71 (.node .nil 5 [1, 2, 13, 14, 15] .nil) .nil) 72 (.node .nil 3 [2, 3, 7, 12, 13, 14] .nil) (.node .nil 79 (.node .nil 2 [0, 1, 7, 8] .nil) .nil))) 80 (.node .nil 2 [0, 1, 2, 3, 8, 9] .nil) (.node (.node (.node .nil 83 (.node .nil 2 [0, 3, 7, 8] .nil) .nil) 91 (.node .nil 3 [3, 6, 7, 8] .nil) (.node .nil 93 (.node .nil 2 [0, 1, 9, 10, 11] .nil) .nil)) 96 (.node (.node .nil 1 [0, 1, 7, 8] .nil) 5 [0, 1, 3, 4, 7, 8, 11, 12] .nil) (.node (.node .nil 99 (.node .nil 2 [0, 1, 7, 8] .nil) .nil) 100 (.node (.node .nil 1 [0, 1, 2, 6] .nil) 4 [0, 1, 2, 6, 7] .nil) (.node .nil 101 (.node (.node .nil 4 [0, 6, 7, 8, 9] .nil) 8 [0, 6, 7, 10] .nil) .nil)))) 102 (.node .nil 5 [0, 1, 6, 7, 8, 9] .nil) (.node (.node (.node (.node .nil 104 (.node .nil 2 [0, 6, 7] .nil) .nil) 105 (.node (.node (.node .nil 3 [0, 1, 2, 7, 8] .nil) 5 [0, 1, 2, 7, 8] .nil) 14 [0, 1, 2, 7, 8, 9] (.node .nil 20 [0, 1, 2, 7, 8, 10] .nil)) (.node .nil 107 (.node (.node .nil 3 [0, 1, 9, 10] .nil) 5 [0, 1, 9, 10] .nil) .nil)) 108 (.node (.node (.node .nil 3 [0, 1, 10, 11] .nil) 5 [0, 1, 10, 11] .nil) 13 [0, 1, 10, 11] (.node .nil 15 [0, 1, 10, 11] .nil)) (.node (.node .nil 112 (.node .nil 2 [0, 1, 2, 3, 4, 10, 11] .nil) .nil) 113 (.node .nil 1 [0, 2, 3, 8] .nil) (.node .nil 118 (.node (.node .nil 1 [0, 1, 2, 3, 8] .nil) 4 [0, 1, 2, 3, 8, 9] .nil) .nil))) 119 (.node (.node .nil 4 [0, 3, 8, 9, 10, 11] .nil) 8 [0, 3, 8, 9, 12] .nil) (.node (.node (.node .nil 120 (.node .nil 5 [0, 1, 8, 9, 10, 11] .nil) .nil) 122 (.node .nil 2 [0, 8, 9] .nil) (.node .nil 123 (.node (.node (.node .nil 3 [0, 1, 2, 3, 9, 10] .nil) 5 [0, 1, 2, 3, 9, 10] .nil) 14 [0, 1, 2, 3, 9, 10, 11] (.node .nil 20 [0, 1, 2, 3, 9, 10, 12] .nil)) .nil)) 124 (.node (.node .nil 3 [0, 1, 4, 11, 12] .nil) 5 [0, 1, 4, 11, 12] .nil) (.node (.node .nil 125 (.node (.node (.node .nil 3 [0, 1, 4, 12, 13] .nil) 5 [0, 1, 4, 12, 13] .nil) 13 [0, 1, 4, 12, 13] (.node .nil 15 [0, 1, 4, 12, 13] .nil)) .nil) 127 (.node .nil 1 [0, 2, 3, 4, 10] .nil) .nil)))))
theorem tyTab_ok : tyTab.All fun t r => tyOf Try.prog t = some r := by
  unfold tyTab
  exact (Tr.all_node (Tr.all_node (Tr.all_node (Tr.all_node (Tr.all_node Tr.all_nil ty3_ok Tr.all_nil) ty4_ok (Tr.all_node Tr.all_nil ty5_ok Tr.all_nil)) ty9_ok (Tr.all_node (Tr.all_node Tr.all_nil ty22_ok Tr.all_nil) ty24_ok (Tr.all_node Tr.all_nil ty26_ok Tr.all_nil))) ty27_ok (Tr.all_node (Tr.all_node (Tr.all_node Tr.all_nil ty29_ok Tr.all_nil) ty31_ok (Tr.all_node Tr.all_nil ty37_ok Tr.all_nil)) ty47_ok (Tr.all_node (Tr.all_node Tr.all_nil ty48_ok Tr.all_nil) ty70_ok Tr.all_nil))) ty75_ok (Tr.all_node (Tr.all_node (Tr.all_node (Tr.all_node Tr.all_nil ty86_ok Tr.all_nil) ty94_ok (Tr.all_node Tr.all_nil ty96_ok Tr.all_nil)) ty99_ok (Tr.all_node (Tr.all_node Tr.all_nil ty106_ok Tr.all_nil) ty112_ok (Tr.all_node Tr.all_nil ty121_ok Tr.all_nil))) ty129_ok (Tr.all_node (Tr.all_node (Tr.all_node Tr.all_nil ty132_ok Tr.all_nil) ty135_ok (Tr.all_node Tr.all_nil ty144_ok Tr.all_nil)) ty146_ok (Tr.all_node (Tr.all_node Tr.all_nil ty148_ok Tr.all_nil) ty152_ok Tr.all_nil))))
theorem fnTab_ok : zK.All fun k f => Try.prog.funcs[k]? = some f := by
  unfold zK
  exact (Tr.all_node (Tr.all_node (Tr.all_node (Tr.all_node (Tr.all_node (Tr.all_node (Tr.all_node (Tr.all_node Tr.all_nil Try.func2 Tr.all_nil) Try.func3 Tr.all_nil) Try.func4 (Tr.all_node Tr.all_nil Try.func5 Tr.all_nil)) Try.func6 (Tr.all_node (Tr.all_node Tr.all_nil Try.func7 Tr.all_nil) Try.func8 (Tr.all_node Tr.all_nil Try.func9 Tr.all_nil))) Try.func10 (Tr.all_node (Tr.all_node (Tr.all_node Tr.all_nil Try.func11 Tr.all_nil) Try.func12 (Tr.all_node Tr.all_nil Try.func13 Tr.all_nil)) Try.func14 (Tr.all_node (Tr.all_node Tr.all_nil Try.func15 Tr.all_nil) Try.func16 (Tr.all_node Tr.all_nil Try.func17 Tr.all_nil)))) Try.func18 (Tr.all_node (Tr.all_node (Tr.all_node (Tr.all_node Tr.all_nil Try.func19 Tr.all_nil) Try.func20 (Tr.all_node Tr.all_nil Try.func21 Tr.all_nil)) Try.func22 (Tr.all_node (Tr.all_node Tr.all_nil Try.func23 Tr.all_nil) Try.func24 (Tr.all_node Tr.all_nil Try.func25 Tr.all_nil))) Try.func26 (Tr.all_node (Tr.all_node (Tr.all_node Tr.all_nil Try.func27 Tr.all_nil) Try.func28 (Tr.all_node Tr.all_nil Try.func29 Tr.all_nil)) Try.func30 (Tr.all_node (Tr.all_node Tr.all_nil Try.func31 Tr.all_nil) Try.func32 (Tr.all_node Tr.all_nil Try.func33 Tr.all_nil))))) Try.func34 (Tr.all_node (Tr.all_node (Tr.all_node (Tr.all_node (Tr.all_node Tr.all_nil Try.func35 Tr.all_nil) Try.func36 (Tr.all_node Tr.all_nil Try.func37 Tr.all_nil)) Try.func38 (Tr.all_node (Tr.all_node Tr.all_nil Try.func39 Tr.all_nil) Try.func40 (Tr.all_node Tr.all_nil Try.func41 Tr.all_nil))) Try.func42 (Tr.all_node (Tr.all_node (Tr.all_node Tr.all_nil Try.func43 Tr.all_nil) Try.func44 (Tr.all_node Tr.all_nil Try.func45 Tr.all_nil)) Try.func46 (Tr.all_node (Tr.all_node Tr.all_nil Try.func47 Tr.all_nil) Try.func48 (Tr.all_node Tr.all_nil Try.func49 Tr.all_nil)))) Try.func50 (Tr.all_node (Tr.all_node (Tr.all_node (Tr.all_node Tr.all_nil Try.func51 Tr.all_nil) Try.func52 (Tr.all_node Tr.all_nil Try.func53 Tr.all_nil)) Try.func54 (Tr.all_node (Tr.all_node Tr.all_nil Try.func55 Tr.all_nil) Try.func56 (Tr.all_node Tr.all_nil Try.func57 Tr.all_nil))) Try.func58 (Tr.all_node (Tr.all_node (Tr.all_node Tr.all_nil Try.func59 Tr.all_nil) Try.func60 (Tr.all_node Tr.all_nil Try.func61 Tr.all_nil)) Try.func62 (Tr.all_node (Tr.all_node Tr.all_nil Try.func63 Tr.all_nil) Try.func64 (Tr.all_node Tr.all_nil Try.func65 Tr.all_nil)))))) Try.func66 (Tr.all_node (Tr.all_node (Tr.all_node (Tr.all_node (Tr.all_node (Tr.all_node (Tr.all_node Tr.all_nil Try.func67 Tr.all_nil) Try.func68 Tr.all_nil) Try.func69 (Tr.all_node Tr.all_nil Try.func70 Tr.all_nil)) Try.func71 (Tr.all_node (Tr.all_node Tr.all_nil Try.func72 Tr.all_nil) Try.func73 (Tr.all_node Tr.all_nil Try.func74 Tr.all_nil))) Try.func75 (Tr.all_node (Tr.all_node (Tr.all_node Tr.all_nil Try.func76 Tr.all_nil) Try.func77 (Tr.all_node Tr.all_nil Try.func78 Tr.all_nil)) Try.func79 (Tr.all_node (Tr.all_node Tr.all_nil Try.func80 Tr.all_nil) Try.func81 (Tr.all_node Tr.all_nil Try.func82 Tr.all_nil)))) Try.func83 (Tr.all_node (Tr.all_node (Tr.all_node (Tr.all_node Tr.all_nil Try.func84 Tr.all_nil) Try.func85 (Tr.all_node Tr.all_nil Try.func86 Tr.all_nil)) Try.func87 (Tr.all_node (Tr.all_node Tr.all_nil Try.func88 Tr.all_nil) Try.func89 (Tr.all_node Tr.all_nil Try.func90 Tr.all_nil))) Try.func91 (Tr.all_node (Tr.all_node (Tr.all_node Tr.all_nil Try.func92 Tr.all_nil) Try.func93 (Tr.all_node Tr.all_nil Try.func94 Tr.all_nil)) Try.func95 (Tr.all_node (Tr.all_node Tr.all_nil Try.func96 Tr.all_nil) Try.func97 (Tr.all_node Tr.all_nil Try.func98 Tr.all_nil))))) Try.func99 (Tr.all_node (Tr.all_node (Tr.all_node (Tr.all_node (Tr.all_node Tr.all_nil Try.func100 Tr.all_nil) Try.func101 (Tr.all_node Tr.all_nil Try.func102 Tr.all_nil)) Try.func103 (Tr.all_node (Tr.all_node Tr.all_nil Try.func104 Tr.all_nil) Try.func105 (Tr.all_node Tr.all_nil Try.func106 Tr.all_nil))) Try.func107 (Tr.all_node (Tr.all_node (Tr.all_node Tr.all_nil Try.func108 Tr.all_nil) Try.func109 (Tr.all_node Tr.all_nil Try.func110 Tr.all_nil)) Try.func111 (Tr.all_node (Tr.all_node Tr.all_nil Try.func112 Tr.all_nil) Try.func113 (Tr.all_node Tr.all_nil Try.func114 Tr.all_nil)))) Try.func115 (Tr.all_node (Tr.all_node (Tr.all_node (Tr.all_node Tr.all_nil Try.func116 Tr.all_nil) Try.func117 (Tr.all_node Tr.all_nil Try.func118 Tr.all_nil)) Try.func119 (Tr.all_node (Tr.all_node Tr.all_nil Try.func120 Tr.all_nil) Try.func121 (Tr.all_node Tr.all_nil Try.func122 Tr.all_nil))) Try.func123 (Tr.all_node (Tr.all_node (Tr.all_node Tr.all_nil Try.func124 Tr.all_nil) Try.func125 (Tr.all_node Tr.all_nil Try.func126 Tr.all_nil)) Try.func127 (Tr.all_node (Tr.all_node Tr.all_nil Try.func128 Tr.all_nil) Try.func129 (Tr.all_node Tr.all_nil Try.func130 Tr.all_nil)))))))
noncomputable def eqB (t : TypeId) : Bool := !Try.prog.stoodInHeld t && !Try.prog.eqGuardType Try.prog.depth t && (match Try.prog.underlying t with | some (.struct fs) => fs.toList.all (fun f => f.name != "_") | _ => true)
theorem eq24_ok : eqB 24 = true := by kernel_rfl
theorem eq26_ok : eqB 26 = true := by kernel_rfl
theorem eq47_ok : eqB 47 = true := by kernel_rfl
theorem eq70_ok : eqB 70 = true := by kernel_rfl
theorem eq96_ok : eqB 96 = true := by kernel_rfl
theorem eq99_ok : eqB 99 = true := by kernel_rfl
noncomputable def eqTab : Tr Unit := (.node (.node (.node .nil 24 () .nil) 26 () (.node .nil 47 () .nil)) 70 () (.node (.node .nil 96 () .nil) 99 () .nil))
theorem eqTab_ok : eqTab.All fun t _ => eqB t = true := by
  unfold eqTab
  exact (Tr.all_node (Tr.all_node (Tr.all_node Tr.all_nil eq24_ok Tr.all_nil) eq26_ok (Tr.all_node Tr.all_nil eq47_ok Tr.all_nil)) eq70_ok (Tr.all_node (Tr.all_node Tr.all_nil eq96_ok Tr.all_nil) eq99_ok Tr.all_nil))
theorem en2_ok : Try.f2.body.isSome = true ∧ Try.f2.name ≠ "runtime.NumGoroutine" := ⟨by kernel_rfl, by decide⟩
theorem en3_ok : Try.f3.body.isSome = true ∧ Try.f3.name ≠ "runtime.NumGoroutine" := ⟨by kernel_rfl, by decide⟩
theorem en4_ok : Try.f4.body.isSome = true ∧ Try.f4.name ≠ "runtime.NumGoroutine" := ⟨by kernel_rfl, by decide⟩
theorem en5_ok : Try.f5.body.isSome = true ∧ Try.f5.name ≠ "runtime.NumGoroutine" := ⟨by kernel_rfl, by decide⟩
theorem en6_ok : Try.f6.body.isSome = true ∧ Try.f6.name ≠ "runtime.NumGoroutine" := ⟨by kernel_rfl, by decide⟩
theorem en7_ok : Try.f7.body.isSome = true ∧ Try.f7.name ≠ "runtime.NumGoroutine" := ⟨by kernel_rfl, by decide⟩
theorem en8_ok : Try.f8.body.isSome = true ∧ Try.f8.name ≠ "runtime.NumGoroutine" := ⟨by kernel_rfl, by decide⟩
theorem en9_ok : Try.f9.body.isSome = true ∧ Try.f9.name ≠ "runtime.NumGoroutine" := ⟨by kernel_rfl, by decide⟩
theorem en10_ok : Try.f10.body.isSome = true ∧ Try.f10.name ≠ "runtime.NumGoroutine" := ⟨by kernel_rfl, by decide⟩
theorem en11_ok : Try.f11.body.isSome = true ∧ Try.f11.name ≠ "runtime.NumGoroutine" := ⟨by kernel_rfl, by decide⟩
theorem en12_ok : Try.f12.body.isSome = true ∧ Try.f12.name ≠ "runtime.NumGoroutine" := ⟨by kernel_rfl, by decide⟩
theorem en13_ok : Try.f13.body.isSome = true ∧ Try.f13.name ≠ "runtime.NumGoroutine" := ⟨by kernel_rfl, by decide⟩
theorem en14_ok : Try.f14.body.isSome = true ∧ Try.f14.name ≠ "runtime.NumGoroutine" := ⟨by kernel_rfl, by decide⟩
theorem en15_ok : Try.f15.body.isSome = true ∧ Try.f15.name ≠ "runtime.NumGoroutine" := ⟨by kernel_rfl, by decide⟩
theorem en16_ok : Try.f16.body.isSome = true ∧ Try.f16.name ≠ "runtime.NumGoroutine" := ⟨by kernel_rfl, by decide⟩
theorem en17_ok : Try.f17.body.isSome = true ∧ Try.f17.name ≠ "runtime.NumGoroutine" := ⟨by kernel_rfl, by decide⟩
theorem en18_ok : Try.f18.body.isSome = true ∧ Try.f18.name ≠ "runtime.NumGoroutine" := ⟨by kernel_rfl, by decide⟩
theorem en19_ok : Try.f19.body.isSome = true ∧ Try.f19.name ≠ "runtime.NumGoroutine" := ⟨by kernel_rfl, by decide⟩
theorem en20_ok : Try.f20.body.isSome = true ∧ Try.f20.name ≠ "runtime.NumGoroutine" := ⟨by kernel_rfl, by decide⟩
theorem en21_ok : Try.f21.body.isSome = true ∧ Try.f21.name ≠ "runtime.NumGoroutine" := ⟨by kernel_rfl, by decide⟩
theorem en22_ok : Try.f22.body.isSome = true ∧ Try.f22.name ≠ "runtime.NumGoroutine" := ⟨by kernel_rfl, by decide⟩
theorem en23_ok : Try.f23.body.isSome = true ∧ Try.f23.name ≠ "runtime.NumGoroutine" := ⟨by kernel_rfl, by decide⟩
theorem en24_ok : Try.f24.body.isSome = true ∧ Try.f24.name ≠ "runtime.NumGoroutine" := ⟨by kernel_rfl, by decide⟩
theorem en25_ok : Try.f25.body.isSome = true ∧ Try.f25.name ≠ "runtime.NumGoroutine" := ⟨by kernel_rfl, by decide⟩
theorem en26_ok : Try.f26.body.isSome = true ∧ Try.f26.name ≠ "runtime.NumGoroutine" := ⟨by kernel_rfl, by decide⟩
theorem en27_ok : Try.f27.body.isSome = true ∧ Try.f27.name ≠ "runtime.NumGoroutine" := ⟨by kernel_rfl, by decide⟩
theorem en28_ok : Try.f28.body.isSome = true ∧ Try.f28.name ≠ "runtime.NumGoroutine" := ⟨by kernel_rfl, by decide⟩
theorem en29_ok : Try.f29.body.isSome = true ∧ Try.f29.name ≠ "runtime.NumGoroutine" := ⟨by kernel_rfl, by decide⟩
theorem en30_ok : Try.f30.body.isSome = true ∧ Try.f30.name ≠ "runtime.NumGoroutine" := ⟨by kernel_rfl, by decide⟩
theorem en31_ok : Try.f31.body.isSome = true ∧ Try.f31.name ≠ "runtime.NumGoroutine" := ⟨by kernel_rfl, by decide⟩
theorem en32_ok : Try.f32.body.isSome = true ∧ Try.f32.name ≠ "runtime.NumGoroutine" := ⟨by kernel_rfl, by decide⟩
theorem en33_ok : Try.f33.body.isSome = true ∧ Try.f33.name ≠ "runtime.NumGoroutine" := ⟨by kernel_rfl, by decide⟩
theorem en34_ok : Try.f34.body.isSome = true ∧ Try.f34.name ≠ "runtime.NumGoroutine" := ⟨by kernel_rfl, by decide⟩
theorem en35_ok : Try.f35.body.isSome = true ∧ Try.f35.name ≠ "runtime.NumGoroutine" := ⟨by kernel_rfl, by decide⟩
theorem en36_ok : Try.f36.body.isSome = true ∧ Try.f36.name ≠ "runtime.NumGoroutine" := ⟨by kernel_rfl, by decide⟩
theorem en37_ok : Try.f37.body.isSome = true ∧ Try.f37.name ≠ "runtime.NumGoroutine" := ⟨by kernel_rfl, by decide⟩
theorem en38_ok : Try.f38.body.isSome = true ∧ Try.f38.name ≠ "runtime.NumGoroutine" := ⟨by kernel_rfl, by decide⟩
theorem en39_ok : Try.f39.body.isSome = true ∧ Try.f39.name ≠ "runtime.NumGoroutine" := ⟨by kernel_rfl, by decide⟩
theorem en40_ok : Try.f40.body.isSome = true ∧ Try.f40.name ≠ "runtime.NumGoroutine" := ⟨by kernel_rfl, by decide⟩
theorem en41_ok : Try.f41.body.isSome = true ∧ Try.f41.name ≠ "runtime.NumGoroutine" := ⟨by kernel_rfl, by decide⟩
theorem en42_ok : Try.f42.body.isSome = true ∧ Try.f42.name ≠ "runtime.NumGoroutine" := ⟨by kernel_rfl, by decide⟩
theorem en43_ok : Try.f43.body.isSome = true ∧ Try.f43.name ≠ "runtime.NumGoroutine" := ⟨by kernel_rfl, by decide⟩
theorem en44_ok : Try.f44.body.isSome = true ∧ Try.f44.name ≠ "runtime.NumGoroutine" := ⟨by kernel_rfl, by decide⟩
theorem en45_ok : Try.f45.body.isSome = true ∧ Try.f45.name ≠ "runtime.NumGoroutine" := ⟨by kernel_rfl, by decide⟩
theorem en46_ok : Try.f46.body.isSome = true ∧ Try.f46.name ≠ "runtime.NumGoroutine" := ⟨by kernel_rfl, by decide⟩
theorem en47_ok : Try.f47.body.isSome = true ∧ Try.f47.name ≠ "runtime.NumGoroutine" := ⟨by kernel_rfl, by decide⟩
theorem en48_ok : Try.f48.body.isSome = true ∧ Try.f48.name ≠ "runtime.NumGoroutine" := ⟨by kernel_rfl, by decide⟩
theorem en49_ok : Try.f49.body.isSome = true ∧ Try.f49.name ≠ "runtime.NumGoroutine" := ⟨by kernel_rfl, by decide⟩
theorem en50_ok : Try.f50.body.isSome = true ∧ Try.f50.name ≠ "runtime.NumGoroutine" := ⟨by kernel_rfl, by decide⟩
theorem en51_ok : Try.f51.body.isSome = true ∧ Try.f51.name ≠ "runtime.NumGoroutine" := ⟨by kernel_rfl, by decide⟩
theorem en52_ok : Try.f52.body.isSome = true ∧ Try.f52.name ≠ "runtime.NumGoroutine" := ⟨by kernel_rfl, by decide⟩
theorem en53_ok : Try.f53.body.isSome = true ∧ Try.f53.name ≠ "runtime.NumGoroutine" := ⟨by kernel_rfl, by decide⟩
theorem en54_ok : Try.f54.body.isSome = true ∧ Try.f54.name ≠ "runtime.NumGoroutine" := ⟨by kernel_rfl, by decide⟩
theorem en55_ok : Try.f55.body.isSome = true ∧ Try.f55.name ≠ "runtime.NumGoroutine" := ⟨by kernel_rfl, by decide⟩
theorem en56_ok : Try.f56.body.isSome = true ∧ Try.f56.name ≠ "runtime.NumGoroutine" := ⟨by kernel_rfl, by decide⟩
theorem en57_ok : Try.f57.body.isSome = true ∧ Try.f57.name ≠ "runtime.NumGoroutine" := ⟨by kernel_rfl, by decide⟩
theorem en58_ok : Try.f58.body.isSome = true ∧ Try.f58.name ≠ "runtime.NumGoroutine" := ⟨by kernel_rfl, by decide⟩
theorem en59_ok : Try.f59.body.isSome = true ∧ Try.f59.name ≠ "runtime.NumGoroutine" := ⟨by kernel_rfl, by decide⟩
theorem en60_ok : Try.f60.body.isSome = true ∧ Try.f60.name ≠ "runtime.NumGoroutine" := ⟨by kernel_rfl, by decide⟩
theorem en61_ok : Try.f61.body.isSome = true ∧ Try.f61.name ≠ "runtime.NumGoroutine" := ⟨by kernel_rfl, by decide⟩
theorem en62_ok : Try.f62.body.isSome = true ∧ Try.f62.name ≠ "runtime.NumGoroutine" := ⟨by kernel_rfl, by decide⟩
theorem en63_ok : Try.f63.body.isSome = true ∧ Try.f63.name ≠ "runtime.NumGoroutine" := ⟨by kernel_rfl, by decide⟩
theorem en64_ok : Try.f64.body.isSome = true ∧ Try.f64.name ≠ "runtime.NumGoroutine" := ⟨by kernel_rfl, by decide⟩
theorem en65_ok : Try.f65.body.isSome = true ∧ Try.f65.name ≠ "runtime.NumGoroutine" := ⟨by kernel_rfl, by decide⟩
theorem en66_ok : Try.f66.body.isSome = true ∧ Try.f66.name ≠ "runtime.NumGoroutine" := ⟨by kernel_rfl, by decide⟩
theorem en67_ok : Try.f67.body.isSome = true ∧ Try.f67.name ≠ "runtime.NumGoroutine" := ⟨by kernel_rfl, by decide⟩
theorem en68_ok : Try.f68.body.isSome = true ∧ Try.f68.name ≠ "runtime.NumGoroutine" := ⟨by kernel_rfl, by decide⟩
theorem en69_ok : Try.f69.body.isSome = true ∧ Try.f69.name ≠ "runtime.NumGoroutine" := ⟨by kernel_rfl, by decide⟩
theorem en70_ok : Try.f70.body.isSome = true ∧ Try.f70.name ≠ "runtime.NumGoroutine" := ⟨by kernel_rfl, by decide⟩
theorem en71_ok : Try.f71.body.isSome = true ∧ Try.f71.name ≠ "runtime.NumGoroutine" := ⟨by kernel_rfl, by decide⟩
theorem en72_ok : Try.f72.body.isSome = true ∧ Try.f72.name ≠ "runtime.NumGoroutine" := ⟨by kernel_rfl, by decide⟩
theorem en73_ok : Try.f73.body.isSome = true ∧ Try.f73.name ≠ "runtime.NumGoroutine" := ⟨by kernel_rfl, by decide⟩
theorem en74_ok : Try.f74.body.isSome = true ∧ Try.f74.name ≠ "runtime.NumGoroutine" := ⟨by kernel_rfl, by decide⟩
theorem en75_ok : Try.f75.body.isSome = true ∧ Try.f75.name ≠ "runtime.NumGoroutine" := ⟨by kernel_rfl, by decide⟩
theorem en76_ok : Try.f76.body.isSome = true ∧ Try.f76.name ≠ "runtime.NumGoroutine" := ⟨by kernel_rfl, by decide⟩
theorem en77_ok : Try.f77.body.isSome = true ∧ Try.f77.name ≠ "runtime.NumGoroutine" := ⟨by kernel_rfl, by decide⟩
theorem en78_ok : Try.f78.body.isSome = true ∧ Try.f78.name ≠ "runtime.NumGoroutine" := ⟨by kernel_rfl, by decide⟩
theorem en79_ok : Try.f79.body.isSome = true ∧ Try.f79.name ≠ "runtime.NumGoroutine" := ⟨by kernel_rfl, by decide⟩
theorem en80_ok : Try.f80.body.isSome = true ∧ Try.f80.name ≠ "runtime.NumGoroutine" := ⟨by kernel_rfl, by decide⟩
theorem en81_ok : Try.f81.body.isSome = true ∧ Try.f81.name ≠ "runtime.NumGoroutine" := ⟨by kernel_rfl, by decide⟩
theorem en82_ok : Try.f82.body.isSome = true ∧ Try.f82.name ≠ "runtime.NumGoroutine" := ⟨by kernel_rfl, by decide⟩
theorem en83_ok : Try.f83.body.isSome = true ∧ Try.f83.name ≠ "runtime.NumGoroutine" := ⟨by kernel_rfl, by decide⟩
theorem en84_ok : Try.f84.body.isSome = true ∧ Try.f84.name ≠ "runtime.NumGoroutine" := ⟨by kernel_rfl, by decide⟩
theorem en85_ok : Try.f85.body.isSome = true ∧ Try.f85.name ≠ "runtime.NumGoroutine" := ⟨by kernel_rfl, by decide⟩
theorem en86_ok : Try.f86.body.isSome = true ∧ Try.f86.name ≠ "runtime.NumGoroutine" := ⟨by kernel_rfl, by decide⟩
theorem en87_ok : Try.f87.body.isSome = true ∧ Try.f87.name ≠ "runtime.NumGoroutine" := ⟨by kernel_rfl, by decide⟩
theorem en88_ok : Try.f88.body.isSome = true ∧ Try.f88.name ≠ "runtime.NumGoroutine" := ⟨by kernel_rfl, by decide⟩
theorem en89_ok : Try.f89.body.isSome = true ∧ Try.f89.name ≠ "runtime.NumGoroutine" := ⟨by kernel_rfl, by decide⟩
theorem en90_ok : Try.f90.body.isSome = true ∧ Try.f90.name ≠ "runtime.NumGoroutine" := ⟨by kernel_rfl, by decide⟩
theorem en91_ok : Try.f91.body.isSome = true ∧ Try.f91.name ≠ "runtime.NumGoroutine" := ⟨by kernel_rfl, by decide⟩
theorem en92_ok : Try.f92.body.isSome = true ∧ Try.f92.name ≠ "runtime.NumGoroutine" := ⟨by kernel_rfl, by decide⟩
theorem en93_ok : Try.f93.body.isSome = true ∧ Try.f93.name ≠ "runtime.NumGoroutine" := ⟨by kernel_rfl, by decide⟩
theorem en94_ok : Try.f94.body.isSome = true ∧ Try.f94.name ≠ "runtime.NumGoroutine" := ⟨by kernel_rfl, by decide⟩
theorem en95_ok : Try.f95.body.isSome = true ∧ Try.f95.name ≠ "runtime.NumGoroutine" := ⟨by kernel_rfl, by decide⟩
theorem en96_ok : Try.f96.body.isSome = true ∧ Try.f96.name ≠ "runtime.NumGoroutine" := ⟨by kernel_rfl, by decide⟩
theorem en97_ok : Try.f97.body.isSome = true ∧ Try.f97.name ≠ "runtime.NumGoroutine" := ⟨by kernel_rfl, by decide⟩
theorem en98_ok : Try.f98.body.isSome = true ∧ Try.f98.name ≠ "runtime.NumGoroutine" := ⟨by kernel_rfl, by decide⟩
theorem en99_ok : Try.f99.body.isSome = true ∧ Try.f99.name ≠ "runtime.NumGoroutine" := ⟨by kernel_rfl, by decide⟩
theorem en100_ok : Try.f100.body.isSome = true ∧ Try.f100.name ≠ "runtime.NumGoroutine" := ⟨by kernel_rfl, by decide⟩
theorem en101_ok : Try.f101.body.isSome = true ∧ Try.f101.name ≠ "runtime.NumGoroutine" := ⟨by kernel_rfl, by decide⟩
theorem en102_ok : Try.f102.body.isSome = true ∧ Try.f102.name ≠ "runtime.NumGoroutine" := ⟨by kernel_rfl, by decide⟩
theorem en103_ok : Try.f103.body.isSome = true ∧ Try.f103.name ≠ "runtime.NumGoroutine" := ⟨by kernel_rfl, by decide⟩
theorem en104_ok : Try.f104.body.isSome = true ∧ Try.f104.name ≠ "runtime.NumGoroutine" := ⟨by kernel_rfl, by decide⟩
theorem en105_ok : Try.f105.body.isSome = true ∧ Try.f105.name ≠ "runtime.NumGoroutine" := ⟨by kernel_rfl, by decide⟩
theorem en106_ok : Try.f106.body.isSome = true ∧ Try.f106.name ≠ "runtime.NumGoroutine" := ⟨by kernel_rfl, by decide⟩
theorem en107_ok : Try.f107.body.isSome = true ∧ Try.f107.name ≠ "runtime.NumGoroutine" := ⟨by kernel_rfl, by decide⟩
theorem en108_ok : Try.f108.body.isSome = true ∧ Try.f108.name ≠ "runtime.NumGoroutine" := ⟨by kernel_rfl, by decide⟩
theorem en109_ok : Try.f109.body.isSome = true ∧ Try.f109.name ≠ "runtime.NumGoroutine" := ⟨by kernel_rfl, by decide⟩
theorem en110_ok : Try.f110.body.isSome = true ∧ Try.f110.name ≠ "runtime.NumGoroutine" := ⟨by kernel_rfl, by decide⟩
theorem en111_ok : Try.f111.body.isSome = true ∧ Try.f111.name ≠ "runtime.NumGoroutine" := ⟨by kernel_rfl, by decide⟩
theorem en112_ok : Try.f112.body.isSome = true ∧ Try.f112.name ≠ "runtime.NumGoroutine" := ⟨by kernel_rfl, by decide⟩
theorem en113_ok : Try.f113.body.isSome = true ∧ Try.f113.name ≠ "runtime.NumGoroutine" := ⟨by kernel_rfl, by decide⟩
theorem en114_ok : Try.f114.body.isSome = true ∧ Try.f114.name ≠ "runtime.NumGoroutine" := ⟨by kernel_rfl, by decide⟩
theorem en115_ok : Try.f115.body.isSome = true ∧ Try.f115.name ≠ "runtime.NumGoroutine" := ⟨by kernel_rfl, by decide⟩
theorem en116_ok : Try.f116.body.isSome = true ∧ Try.f116.name ≠ "runtime.NumGoroutine" := ⟨by kernel_rfl, by decide⟩
theorem en117_ok : Try.f117.body.isSome = true ∧ Try.f117.name ≠ "runtime.NumGoroutine" := ⟨by kernel_rfl, by decide⟩
theorem en118_ok : Try.f118.body.isSome = true ∧ Try.f118.name ≠ "runtime.NumGoroutine" := ⟨by kernel_rfl, by decide⟩
theorem en119_ok : Try.f119.body.isSome = true ∧ Try.f119.name ≠ "runtime.NumGoroutine" := ⟨by kernel_rfl, by decide⟩
theorem en120_ok : Try.f120.body.isSome = true ∧ Try.f120.name ≠ "runtime.NumGoroutine" := ⟨by kernel_rfl, by decide⟩
theorem en121_ok : Try.f121.body.isSome = true ∧ Try.f121.name ≠ "runtime.NumGoroutine" := ⟨by kernel_rfl, by decide⟩
theorem en122_ok : Try.f122.body.isSome = true ∧ Try.f122.name ≠ "runtime.NumGoroutine" := ⟨by kernel_rfl, by decide⟩
theorem en123_ok : Try.f123.body.isSome = true ∧ Try.f123.name ≠ "runtime.NumGoroutine" := ⟨by kernel_rfl, by decide⟩
theorem en124_ok : Try.f124.body.isSome = true ∧ Try.f124.name ≠ "runtime.NumGoroutine" := ⟨by kernel_rfl, by decide⟩
theorem en125_ok : Try.f125.body.isSome = true ∧ Try.f125.name ≠ "runtime.NumGoroutine" := ⟨by kernel_rfl, by decide⟩
theorem en126_ok : Try.f126.body.isSome = true ∧ Try.f126.name ≠ "runtime.NumGoroutine" := ⟨by kernel_rfl, by decide⟩
theorem en127_ok : Try.f127.body.isSome = true ∧ Try.f127.name ≠ "runtime.NumGoroutine" := ⟨by kernel_rfl, by decide⟩
theorem en128_ok : Try.f128.body.isSome = true ∧ Try.f128.name ≠ "runtime.NumGoroutine" := ⟨by kernel_rfl, by decide⟩
theorem en129_ok : Try.f129.body.isSome = true ∧ Try.f129.name ≠ "runtime.NumGoroutine" := ⟨by kernel_rfl, by decide⟩
theorem en130_ok : Try.f130.body.isSome = true ∧ Try.f130.name ≠ "runtime.NumGoroutine" := ⟨by kernel_rfl, by decide⟩
theorem enTab_ok : zK.All fun _ f => f.body.isSome = true ∧ f.name ≠ "runtime.NumGoroutine" := by
  unfold zK
  exact (Tr.all_node (Tr.all_node (Tr.all_node (Tr.all_node (Tr.all_node (Tr.all_node (Tr.all_node (Tr.all_node Tr.all_nil en2_ok Tr.all_nil) en3_ok Tr.all_nil) en4_ok (Tr.all_node Tr.all_nil en5_ok Tr.all_nil)) en6_ok (Tr.all_node (Tr.all_node Tr.all_nil en7_ok Tr.all_nil) en8_ok (Tr.all_node Tr.all_nil en9_ok Tr.all_nil))) en10_ok (Tr.all_node (Tr.all_node (Tr.all_node Tr.all_nil en11_ok Tr.all_nil) en12_ok (Tr.all_node Tr.all_nil en13_ok Tr.all_nil)) en14_ok (Tr.all_node (Tr.all_node Tr.all_nil en15_ok Tr.all_nil) en16_ok (Tr.all_node Tr.all_nil en17_ok Tr.all_nil)))) en18_ok (Tr.all_node (Tr.all_node (Tr.all_node (Tr.all_node Tr.all_nil en19_ok Tr.all_nil) en20_ok (Tr.all_node Tr.all_nil en21_ok Tr.all_nil)) en22_ok (Tr.all_node (Tr.all_node Tr.all_nil en23_ok Tr.all_nil) en24_ok (Tr.all_node Tr.all_nil en25_ok Tr.all_nil))) en26_ok (Tr.all_node (Tr.all_node (Tr.all_node Tr.all_nil en27_ok Tr.all_nil) en28_ok (Tr.all_node Tr.all_nil en29_ok Tr.all_nil)) en30_ok (Tr.all_node (Tr.all_node Tr.all_nil en31_ok Tr.all_nil) en32_ok (Tr.all_node Tr.all_nil en33_ok Tr.all_nil))))) en34_ok (Tr.all_node (Tr.all_node (Tr.all_node (Tr.all_node (Tr.all_node Tr.all_nil en35_ok Tr.all_nil) en36_ok (Tr.all_node Tr.all_nil en37_ok Tr.all_nil)) en38_ok (Tr.all_node (Tr.all_node Tr.all_nil en39_ok Tr.all_nil) en40_ok (Tr.all_node Tr.all_nil en41_ok Tr.all_nil))) en42_ok (Tr.all_node (Tr.all_node (Tr.all_node Tr.all_nil en43_ok Tr.all_nil) en44_ok (Tr.all_node Tr.all_nil en45_ok Tr.all_nil)) en46_ok (Tr.all_node (Tr.all_node Tr.all_nil en47_ok Tr.all_nil) en48_ok (Tr.all_node Tr.all_nil en49_ok Tr.all_nil)))) en50_ok (Tr.all_node (Tr.all_node (Tr.all_node (Tr.all_node Tr.all_nil en51_ok Tr.all_nil) en52_ok (Tr.all_node Tr.all_nil en53_ok Tr.all_nil)) en54_ok (Tr.all_node (Tr.all_node Tr.all_nil en55_ok Tr.all_nil) en56_ok (Tr.all_node Tr.all_nil en57_ok Tr.all_nil))) en58_ok (Tr.all_node (Tr.all_node (Tr.all_node Tr.all_nil en59_ok Tr.all_nil) en60_ok (Tr.all_node Tr.all_nil en61_ok Tr.all_nil)) en62_ok (Tr.all_node (Tr.all_node Tr.all_nil en63_ok Tr.all_nil) en64_ok (Tr.all_node Tr.all_nil en65_ok Tr.all_nil)))))) en66_ok (Tr.all_node (Tr.all_node (Tr.all_node (Tr.all_node (Tr.all_node (Tr.all_node (Tr.all_node Tr.all_nil en67_ok Tr.all_nil) en68_ok Tr.all_nil) en69_ok (Tr.all_node Tr.all_nil en70_ok Tr.all_nil)) en71_ok (Tr.all_node (Tr.all_node Tr.all_nil en72_ok Tr.all_nil) en73_ok (Tr.all_node Tr.all_nil en74_ok Tr.all_nil))) en75_ok (Tr.all_node (Tr.all_node (Tr.all_node Tr.all_nil en76_ok Tr.all_nil) en77_ok (Tr.all_node Tr.all_nil en78_ok Tr.all_nil)) en79_ok (Tr.all_node (Tr.all_node Tr.all_nil en80_ok Tr.all_nil) en81_ok (Tr.all_node Tr.all_nil en82_ok Tr.all_nil)))) en83_ok (Tr.all_node (Tr.all_node (Tr.all_node (Tr.all_node Tr.all_nil en84_ok Tr.all_nil) en85_ok (Tr.all_node Tr.all_nil en86_ok Tr.all_nil)) en87_ok (Tr.all_node (Tr.all_node Tr.all_nil en88_ok Tr.all_nil) en89_ok (Tr.all_node Tr.all_nil en90_ok Tr.all_nil))) en91_ok (Tr.all_node (Tr.all_node (Tr.all_node Tr.all_nil en92_ok Tr.all_nil) en93_ok (Tr.all_node Tr.all_nil en94_ok Tr.all_nil)) en95_ok (Tr.all_node (Tr.all_node Tr.all_nil en96_ok Tr.all_nil) en97_ok (Tr.all_node Tr.all_nil en98_ok Tr.all_nil))))) en99_ok (Tr.all_node (Tr.all_node (Tr.all_node (Tr.all_node (Tr.all_node Tr.all_nil en100_ok Tr.all_nil) en101_ok (Tr.all_node Tr.all_nil en102_ok Tr.all_nil)) en103_ok (Tr.all_node (Tr.all_node Tr.all_nil en104_ok Tr.all_nil) en105_ok (Tr.all_node Tr.all_nil en106_ok Tr.all_nil))) en107_ok (Tr.all_node (Tr.all_node (Tr.all_node Tr.all_nil en108_ok Tr.all_nil) en109_ok (Tr.all_node Tr.all_nil en110_ok Tr.all_nil)) en111_ok (Tr.all_node (Tr.all_node Tr.all_nil en112_ok Tr.all_nil) en113_ok (Tr.all_node Tr.all_nil en114_ok Tr.all_nil)))) en115_ok (Tr.all_node (Tr.all_node (Tr.all_node (Tr.all_node Tr.all_nil en116_ok Tr.all_nil) en117_ok (Tr.all_node Tr.all_nil en118_ok Tr.all_nil)) en119_ok (Tr.all_node (Tr.all_node Tr.all_nil en120_ok Tr.all_nil) en121_ok (Tr.all_node Tr.all_nil en122_ok Tr.all_nil))) en123_ok (Tr.all_node (Tr.all_node (Tr.all_node Tr.all_nil en124_ok Tr.all_nil) en125_ok (Tr.all_node Tr.all_nil en126_ok Tr.all_nil)) en127_ok (Tr.all_node (Tr.all_node Tr.all_nil en128_ok Tr.all_nil) en129_ok (Tr.all_node Tr.all_nil en130_ok Tr.all_nil)))))))
theorem cty3 : tyTab.find 3 = some ty3 := by kernel_rfl
theorem cty4 : tyTab.find 4 = some ty4 := by kernel_rfl
theorem cty5 : tyTab.find 5 = some ty5 := by kernel_rfl
theorem cty9 : tyTab.find 9 = some ty9 := by kernel_rfl
theorem cty22 : tyTab.find 22 = some ty22 := by kernel_rfl
theorem cty24 : tyTab.find 24 = some ty24 := by kernel_rfl
theorem cty26 : tyTab.find 26 = some ty26 := by kernel_rfl
theorem cty27 : tyTab.find 27 = some ty27 := by kernel_rfl
theorem cty29 : tyTab.find 29 = some ty29 := by kernel_rfl
theorem cty31 : tyTab.find 31 = some ty31 := by kernel_rfl
theorem cty37 : tyTab.find 37 = some ty37 := by kernel_rfl
theorem cty47 : tyTab.find 47 = some ty47 := by kernel_rfl
theorem cty48 : tyTab.find 48 = some ty48 := by kernel_rfl
theorem cty70 : tyTab.find 70 = some ty70 := by kernel_rfl
theorem cty75 : tyTab.find 75 = some ty75 := by kernel_rfl
theorem cty86 : tyTab.find 86 = some ty86 := by kernel_rfl
theorem cty94 : tyTab.find 94 = some ty94 := by kernel_rfl
theorem cty96 : tyTab.find 96 = some ty96 := by kernel_rfl
theorem cty99 : tyTab.find 99 = some ty99 := by kernel_rfl
theorem cty106 : tyTab.find 106 = some ty106 := by kernel_rfl
theorem cty112 : tyTab.find 112 = some ty112 := by kernel_rfl
theorem cty121 : tyTab.find 121 = some ty121 := by kernel_rfl
theorem cty129 : tyTab.find 129 = some ty129 := by kernel_rfl
theorem cty132 : tyTab.find 132 = some ty132 := by kernel_rfl
theorem cty135 : tyTab.find 135 = some ty135 := by kernel_rfl
theorem cty144 : tyTab.find 144 = some ty144 := by kernel_rfl
theorem cty146 : tyTab.find 146 = some ty146 := by kernel_rfl
theorem cty148 : tyTab.find 148 = some ty148 := by kernel_rfl
theorem cty152 : tyTab.find 152 = some ty152 := by kernel_rfl
theorem cfn2 : zK.find 2 = some Try.f2 := by kernel_rfl
theorem cfn3 : zK.find 3 = some Try.f3 := by kernel_rfl
theorem cfn4 : zK.find 4 = some Try.f4 := by kernel_rfl
theorem cfn5 : zK.find 5 = some Try.f5 := by kernel_rfl
theorem cfn6 : zK.find 6 = some Try.f6 := by kernel_rfl
theorem cfn7 : zK.find 7 = some Try.f7 := by kernel_rfl
theorem cfn8 : zK.find 8 = some Try.f8 := by kernel_rfl
theorem cfn9 : zK.find 9 = some Try.f9 := by kernel_rfl
theorem cfn10 : zK.find 10 = some Try.f10 := by kernel_rfl
theorem cfn11 : zK.find 11 = some Try.f11 := by kernel_rfl
theorem cfn12 : zK.find 12 = some Try.f12 := by kernel_rfl
theorem cfn13 : zK.find 13 = some Try.f13 := by kernel_rfl
theorem cfn14 : zK.find 14 = some Try.f14 := by kernel_rfl
theorem cfn15 : zK.find 15 = some Try.f15 := by kernel_rfl
theorem cfn16 : zK.find 16 = some Try.f16 := by kernel_rfl
theorem cfn17 : zK.find 17 = some Try.f17 := by kernel_rfl
theorem cfn18 : zK.find 18 = some Try.f18 := by kernel_rfl
theorem cfn19 : zK.find 19 = some Try.f19 := by kernel_rfl
theorem cfn20 : zK.find 20 = some Try.f20 := by kernel_rfl
theorem cfn21 : zK.find 21 = some Try.f21 := by kernel_rfl
theorem cfn22 : zK.find 22 = some Try.f22 := by kernel_rfl
theorem cfn23 : zK.find 23 = some Try.f23 := by kernel_rfl
theorem cfn24 : zK.find 24 = some Try.f24 := by kernel_rfl
theorem cfn25 : zK.find 25 = some Try.f25 := by kernel_rfl
theorem cfn26 : zK.find 26 = some Try.f26 := by kernel_rfl
theorem cfn27 : zK.find 27 = some Try.f27 := by kernel_rfl
theorem cfn28 : zK.find 28 = some Try.f28 := by kernel_rfl
theorem cfn29 : zK.find 29 = some Try.f29 := by kernel_rfl
theorem cfn30 : zK.find 30 = some Try.f30 := by kernel_rfl
theorem cfn31 : zK.find 31 = some Try.f31 := by kernel_rfl
theorem cfn32 : zK.find 32 = some Try.f32 := by kernel_rfl
theorem cfn33 : zK.find 33 = some Try.f33 := by kernel_rfl
theorem cfn34 : zK.find 34 = some Try.f34 := by kernel_rfl
theorem cfn35 : zK.find 35 = some Try.f35 := by kernel_rfl
theorem cfn36 : zK.find 36 = some Try.f36 := by kernel_rfl
theorem cfn40 : zK.find 40 = some Try.f40 := by kernel_rfl
theorem cfn41 : zK.find 41 = some Try.f41 := by kernel_rfl
theorem cfn42 : zK.find 42 = some Try.f42 := by kernel_rfl
theorem cfn43 : zK.find 43 = some Try.f43 := by kernel_rfl
theorem cfn44 : zK.find 44 = some Try.f44 := by kernel_rfl
theorem cfn45 : zK.find 45 = some Try.f45 := by kernel_rfl
theorem cfn46 : zK.find 46 = some Try.f46 := by kernel_rfl
theorem cfn47 : zK.find 47 = some Try.f47 := by kernel_rfl
theorem cfn48 : zK.find 48 = some Try.f48 := by kernel_rfl
theorem cfn49 : zK.find 49 = some Try.f49 := by kernel_rfl
theorem cfn50 : zK.find 50 = some Try.f50 := by kernel_rfl
theorem cfn51 : zK.find 51 = some Try.f51 := by kernel_rfl
theorem cfn52 : zK.find 52 = some Try.f52 := by kernel_rfl
theorem cfn53 : zK.find 53 = some Try.f53 := by kernel_rfl
theorem cfn54 : zK.find 54 = some Try.f54 := by kernel_rfl
theorem cfn55 : zK.find 55 = some Try.f55 := by kernel_rfl
theorem cfn56 : zK.find 56 = some Try.f56 := by kernel_rfl
theorem cfn57 : zK.find 57 = some Try.f57 := by kernel_rfl
theorem cfn58 : zK.find 58 = some Try.f58 := by kernel_rfl
theorem cfn59 : zK.find 59 = some Try.f59 := by kernel_rfl
theorem cfn60 : zK.find 60 = some Try.f60 := by kernel_rfl
theorem cfn61 : zK.find 61 = some Try.f61 := by kernel_rfl
theorem cfn62 : zK.find 62 = some Try.f62 := by kernel_rfl
theorem cfn63 : zK.find 63 = some Try.f63 := by kernel_rfl
theorem cfn64 : zK.find 64 = some Try.f64 := by kernel_rfl
theorem cfn65 : zK.find 65 = some Try.f65 := by kernel_rfl
theorem cfn66 : zK.find 66 = some Try.f66 := by kernel_rfl
theorem cfn67 : zK.find 67 = some Try.f67 := by kernel_rfl
theorem cfn68 : zK.find 68 = some Try.f68 := by kernel_rfl
theorem cfn69 : zK.find 69 = some Try.f69 := by kernel_rfl
theorem cfn71 : zK.find 71 = some Try.f71 := by kernel_rfl
theorem cfn72 : zK.find 72 = some Try.f72 := by kernel_rfl
theorem cfn73 : zK.find 73 = some Try.f73 := by kernel_rfl
theorem cfn74 : zK.find 74 = some Try.f74 := by kernel_rfl
theorem cfn75 : zK.find 75 = some Try.f75 := by kernel_rfl
theorem cfn76 : zK.find 76 = some Try.f76 := by kernel_rfl
theorem cfn77 : zK.find 77 = some Try.f77 := by kernel_rfl
theorem cfn78 : zK.find 78 = some Try.f78 := by kernel_rfl
theorem cfn79 : zK.find 79 = some Try.f79 := by kernel_rfl
theorem cfn81 : zK.find 81 = some Try.f81 := by kernel_rfl
theorem cfn82 : zK.find 82 = some Try.f82 := by kernel_rfl
theorem cfn83 : zK.find 83 = some Try.f83 := by kernel_rfl
theorem cfn84 : zK.find 84 = some Try.f84 := by kernel_rfl
theorem cfn85 : zK.find 85 = some Try.f85 := by kernel_rfl
theorem cfn87 : zK.find 87 = some Try.f87 := by kernel_rfl
theorem cfn88 : zK.find 88 = some Try.f88 := by kernel_rfl
theorem cfn89 : zK.find 89 = some Try.f89 := by kernel_rfl
theorem cfn90 : zK.find 90 = some Try.f90 := by kernel_rfl
theorem cfn91 : zK.find 91 = some Try.f91 := by kernel_rfl
theorem cfn92 : zK.find 92 = some Try.f92 := by kernel_rfl
theorem cfn93 : zK.find 93 = some Try.f93 := by kernel_rfl
theorem cfn94 : zK.find 94 = some Try.f94 := by kernel_rfl
theorem cfn95 : zK.find 95 = some Try.f95 := by kernel_rfl
theorem cfn96 : zK.find 96 = some Try.f96 := by kernel_rfl
theorem cfn98 : zK.find 98 = some Try.f98 := by kernel_rfl
theorem cfn99 : zK.find 99 = some Try.f99 := by kernel_rfl
theorem cfn106 : zK.find 106 = some Try.f106 := by kernel_rfl
theorem cfn109 : zK.find 109 = some Try.f109 := by kernel_rfl
theorem cfn110 : zK.find 110 = some Try.f110 := by kernel_rfl
theorem cfn111 : zK.find 111 = some Try.f111 := by kernel_rfl
theorem cfn114 : zK.find 114 = some Try.f114 := by kernel_rfl
theorem lty3 : tyTab.find 3 = some ⟨(.int .i64), 1, 8, (.int .i64 0)⟩ := cty3
theorem lty4 : tyTab.find 4 = some ⟨.bool, 1, 1, (.bool false)⟩ := cty4
theorem lty5 : tyTab.find 5 = some ⟨(.int .u8), 1, 1, (.int .u8 0)⟩ := cty5
theorem lty9 : tyTab.find 9 = some ⟨.str, 1, 16, (.string ⟨#[]⟩)⟩ := cty9
theorem lty22 : tyTab.find 22 = some ⟨(.slice 70), 1, 24, (.slice none 0 0)⟩ := cty22
theorem lty24 : tyTab.find 24 = some ⟨(.struct [(3, 0), (3, 1)]), 2, 16, (.agg #[(.int .i64 0), (.int .i64 0)])⟩ := cty24
theorem lty26 : tyTab.find 26 = some ⟨(.struct [(22, 0), (24, 1)]), 3, 40, (.agg #[(.slice none 0 0), (.int .i64 0), (.int .i64 0)])⟩ := cty26
theorem lty27 : tyTab.find 27 = some ⟨(.slice 29), 1, 24, (.slice none 0 0)⟩ := cty27
theorem lty29 : tyTab.find 29 = some ⟨(.slice 47), 1, 24, (.slice none 0 0)⟩ := cty29
theorem lty31 : tyTab.find 31 = some ⟨(.int .i64), 1, 8, (.int .i64 0)⟩ := cty31
theorem lty37 : tyTab.find 37 = some ⟨(.slice 3), 1, 24, (.slice none 0 0)⟩ := cty37
theorem lty47 : tyTab.find 47 = some ⟨(.arr 2 3), 2, 16, (.agg #[(.int .i64 0), (.int .i64 0)])⟩ := cty47
theorem lty48 : tyTab.find 48 = some ⟨.func, 1, 8, .nilFunc⟩ := cty48
theorem lty70 : tyTab.find 70 = some ⟨(.struct [(24, 0), (3, 2), (3, 3)]), 4, 32, (.agg #[(.int .i64 0), (.int .i64 0), (.int .i64 0), (.int .i64 0)])⟩ := cty70
theorem lty75 : tyTab.find 75 = some ⟨.func, 1, 8, .nilFunc⟩ := cty75
theorem lty86 : tyTab.find 86 = some ⟨(.slice 37), 1, 24, (.slice none 0 0)⟩ := cty86
theorem lty94 : tyTab.find 94 = some ⟨.func, 1, 8, .nilFunc⟩ := cty94
theorem lty96 : tyTab.find 96 = some ⟨(.struct [(94, 0)]), 1, 8, (.agg #[.nilFunc])⟩ := cty96
theorem lty99 : tyTab.find 99 = some ⟨(.struct [(24, 0), (3, 2), (24, 3)]), 5, 40, (.agg #[(.int .i64 0), (.int .i64 0), (.int .i64 0), (.int .i64 0), (.int .i64 0)])⟩ := cty99
theorem lty106 : tyTab.find 106 = some ⟨.func, 1, 8, .nilFunc⟩ := cty106
theorem lty112 : tyTab.find 112 = some ⟨.func, 1, 8, .nilFunc⟩ := cty112
theorem lty121 : tyTab.find 121 = some ⟨(.int .u64), 1, 8, (.int .u64 0)⟩ := cty121
theorem lty129 : tyTab.find 129 = some ⟨.func, 1, 8, .nilFunc⟩ := cty129
theorem lty132 : tyTab.find 132 = some ⟨.func, 1, 8, .nilFunc⟩ := cty132
theorem lty135 : tyTab.find 135 = some ⟨(.int .i64), 1, 8, (.int .i64 0)⟩ := cty135
theorem lty144 : tyTab.find 144 = some ⟨(.int .u32), 1, 4, (.int .u32 0)⟩ := cty144
theorem lty146 : tyTab.find 146 = some ⟨(.int .u64), 1, 8, (.int .u64 0)⟩ := cty146
theorem lty148 : tyTab.find 148 = some ⟨(.int .u64), 1, 8, (.int .u64 0)⟩ := cty148
theorem lty152 : tyTab.find 152 = some ⟨(.ptr 3), 1, 8, (.pointer none)⟩ := cty152
set_option linter.defProp false
def tys := (And.intro (And.intro (And.intro (And.intro @lty3 (And.intro @lty4 @lty5)) (And.intro (And.intro @lty9 @lty22) (And.intro @lty24 @lty26))) (And.intro (And.intro @lty27 (And.intro @lty29 @lty31)) (And.intro (And.intro @lty37 @lty47) (And.intro @lty48 @lty70)))) (And.intro (And.intro (And.intro @lty75 (And.intro @lty86 @lty94)) (And.intro (And.intro @lty96 @lty99) (And.intro @lty106 @lty112))) (And.intro (And.intro (And.intro @lty121 @lty129) (And.intro @lty132 @lty135)) (And.intro (And.intro @lty144 @lty146) (And.intro @lty148 @lty152)))))
noncomputable def find2 (t : Tr (Tr (List Nat))) (f r : Nat) : List Nat := match t.find f with | some u => (match u.find r with | some l => l | none => []) | none => []
end Go.VS

/-
  VS, part W: to walk through code, one operation after the other. (A text of this claim's own; nothing of it is trusted.)
-/
namespace Go.VS
open Go

/-- What is to be done behind the code at hand. -/
inductive Kt where
  | code (c : Code) | block (id : Nat) | scope | loop (a : Code)

section
variable {β : Type} (C : Cfg) (S : Sm) (f : FuncId) (F : Exit → St → Option β)
def contK : List Kt → Exit → St → Option β
  | [], e, st => F e st
  | .code c :: k, e, st => match e with
    | .normal => match ya C S f c st with
      | some (e, st') => contK k e st'
      | none => none
    | e => contK k e st
  | .block id :: k, e, st => match e with
    | .exit id' => if id' = id then contK k .normal st else contK k (.exit id') st
    | e => contK k e st
  | .scope :: k, e, st => match e with
    | .goto _ => none
    | e => contK k e st
  | .loop a :: k, e, st => match e with
    | .normal => match gc (C.keep f (firstRegion a)) st with
      | some st1 => match S.loop f a st1 with
        | some (e, st2) => contK k e st2
        | none => none
      | none => none
    | e => contK k e st
/-- A loop from its head on. -/
def EvL (a : Code) (k : List Kt) (st : St) : Option β := match S.loop f a st with
  | some (e, st') => contK C S f F k e st'
  | none => none
def EvC (c : Code) (k : List Kt) (st : St) : Option β := match ya C S f c st with
  | some (e, st') => contK C S f F k e st'
  | none => none
/-- A region whose order is the text's. -/
def EvU (ops : Array Oper) (l : List Oper) (k : List Kt) (st : St) : Option β := match evOps C S ops l st with
  | some st' => contK C S f F k .normal st'
  | none => none
/-- A region whose order is drawn. -/
def EvD (ops : Array Oper) (l : List Oper) (tr : Trace) (k : List Kt) (st : St) : Option β := match evOpsT C S ops l st with
  | some (st', tr') => if regOK ops && traceOK ops (tr.reverse ++ tr') then contK C S f F k .normal st' else none
  | none => none
end

section
variable {β : Type} {C : Cfg} {S : Sm} {f : FuncId} {F : Exit → St → Option β} {k : List Kt} {st : St} {r : Option β} {a b c : Code}
/-! ### operations -/
variable {ops : Array Oper} {l : List Oper} {o : Oper} {n nxt pin : Nat} {tms tm : List (Nat × D)} {objs ob : List (Nat × Ob)} {d : D} {wr : List Upd} {rd : List Nat} {nx : Nat} {tr : Trace}
/-- What is made of a value: it is written, and on. -/
def Put (n : Nat) (tms : List (Nat × D)) (dst : Option Tmp) (d : D) (G : List (Nat × D) → Prop) : Prop := G (putT n tms dst d)
variable {dst : Option Tmp} {G : List (Nat × D) → Prop} {tm1 tm0 : List (Nat × D)}
theorem ids_val {f : Nat} {v : Value} : idsD (f + 1) (.val v) = some [] := rfl
theorem ids_sl {f : Nat} {nl : Bool} {els : List D} {sz : Nat} {cap : Option Nat} : idsD (f + 1) (.sl nl els sz cap) = some [] := rfl
theorem ids_ptr {f : Nat} {d : D} : idsD (f + 1) (.ptr d) = some [] := rfl
theorem ids_lref {f o i sz sub : Nat} : idsD (f + 1) (.lref o i sz sub) = some [o] := rfl
theorem ids_lsl {f o off len sz : Nat} {cap : Option Nat} : idsD (f + 1) (.lsl o off len sz cap) = some [o] := rfl
theorem ids_agg {f : Nat} {cs : List D} : idsD (f + 1) (.agg cs) = idsL (idsD f) cs := rfl
theorem ids_tup {f : Nat} {cs : List D} : idsD (f + 1) (.tup cs) = idsL (idsD f) cs := rfl
theorem ids_unk {f : Nat} : idsD (f + 1) .unk = some [] := rfl
theorem ren_val {ρ : Nat → Option Nat} {f : Nat} {v : Value} : renD ρ (f + 1) (.val v) = .val v := rfl
theorem ren_sl {ρ : Nat → Option Nat} {f : Nat} {nl : Bool} {els : List D} {sz : Nat} {cap : Option Nat} : renD ρ (f + 1) (.sl nl els sz cap) = .sl nl els sz cap := rfl
theorem ren_ptr {ρ : Nat → Option Nat} {f : Nat} {d : D} : renD ρ (f + 1) (.ptr d) = .ptr d := rfl
theorem ren_lref {ρ : Nat → Option Nat} {f o i sz sub : Nat} : renD ρ (f + 1) (.lref o i sz sub) = match ρ o with | some o' => .lref o' i sz sub | none => .unk := rfl
theorem ren_lsl {ρ : Nat → Option Nat} {f o off len sz : Nat} {cap : Option Nat} : renD ρ (f + 1) (.lsl o off len sz cap) = match ρ o with | some o' => .lsl o' off len sz cap | none => .unk := rfl
theorem ren_agg {ρ : Nat → Option Nat} {f : Nat} {cs : List D} : renD ρ (f + 1) (.agg cs) = .agg (cs.map (renD ρ f)) := rfl
theorem ren_tup {ρ : Nat → Option Nat} {f : Nat} {cs : List D} : renD ρ (f + 1) (.tup cs) = .tup (cs.map (renD ρ f)) := rfl
theorem ren_unk {ρ : Nat → Option Nat} {f : Nat} : renD ρ (f + 1) .unk = .unk := rfl
theorem on_int {k : IntKind} {n : Int} : D.one (.val (.int k n)) = true := rfl
theorem oc_int {k : IntKind} {n : Int} : D.okCells (.val (.int k n)) = true := rfl
theorem ce_int {k : IntKind} {n : Int} : D.cells (.val (.int k n)) = [.val (.int k n)] := rfl
theorem on_bool {b : Bool} : D.one (.val (.bool b)) = true := rfl
theorem oc_bool {b : Bool} : D.okCells (.val (.bool b)) = true := rfl
theorem ce_bool {b : Bool} : D.cells (.val (.bool b)) = [.val (.bool b)] := rfl
theorem on_str {b : ByteArray} : D.one (.val (.string b)) = true := rfl
theorem oc_str {b : ByteArray} : D.okCells (.val (.string b)) = true := rfl
theorem ce_str {b : ByteArray} : D.cells (.val (.string b)) = [.val (.string b)] := rfl
theorem on_vptr {p : Option Addr} : D.one (.val (.pointer p)) = true := rfl
theorem oc_vptr {p : Option Addr} : D.okCells (.val (.pointer p)) = true := rfl
theorem ce_vptr {p : Option Addr} : D.cells (.val (.pointer p)) = [.val (.pointer p)] := rfl
theorem on_vnf  : D.one (.val .nilFunc) = true := rfl
theorem oc_vnf  : D.okCells (.val .nilFunc) = true := rfl
theorem ce_vnf  : D.cells (.val .nilFunc) = [.val .nilFunc] := rfl
theorem on_vni  : D.one (.val .nilIface) = true := rfl
theorem oc_vni  : D.okCells (.val .nilIface) = true := rfl
theorem ce_vni  : D.cells (.val .nilIface) = [.val .nilIface] := rfl
theorem on_sl {nl : Bool} {els : List D} {sz : Nat} {cap : Option Nat} : D.one (.sl nl els sz cap) = true := rfl
theorem oc_sl {nl : Bool} {els : List D} {sz : Nat} {cap : Option Nat} : D.okCells (.sl nl els sz cap) = true := rfl
theorem ce_sl {nl : Bool} {els : List D} {sz : Nat} {cap : Option Nat} : D.cells (.sl nl els sz cap) = [.sl nl els sz cap] := rfl
theorem on_ptr {d : D} : D.one (.ptr d) = true := rfl
theorem oc_ptr {d : D} : D.okCells (.ptr d) = true := rfl
theorem ce_ptr {d : D} : D.cells (.ptr d) = [.ptr d] := rfl
theorem on_lref {o i sz sub : Nat} : D.one (.lref o i sz sub) = true := rfl
theorem oc_lref {o i sz sub : Nat} : D.okCells (.lref o i sz sub) = true := rfl
theorem ce_lref {o i sz sub : Nat} : D.cells (.lref o i sz sub) = [.lref o i sz sub] := rfl
theorem on_lsl {o off len sz : Nat} {cap : Option Nat} : D.one (.lsl o off len sz cap) = true := rfl
theorem oc_lsl {o off len sz : Nat} {cap : Option Nat} : D.okCells (.lsl o off len sz cap) = true := rfl
theorem ce_lsl {o off len sz : Nat} {cap : Option Nat} : D.cells (.lsl o off len sz cap) = [.lsl o off len sz cap] := rfl
theorem on_fn {f : Fn} {a b : List D} : D.one (.fn f a b) = true := rfl
theorem oc_fn {f : Fn} {a b : List D} : D.okCells (.fn f a b) = true := rfl
theorem ce_fn {f : Fn} {a b : List D} : D.cells (.fn f a b) = [.fn f a b] := rfl
theorem on_iface {t : TypeId} {d : D} : D.one (.iface t d) = true := rfl
theorem oc_iface {t : TypeId} {d : D} : D.okCells (.iface t d) = true := rfl
theorem ce_iface {t : TypeId} {d : D} : D.cells (.iface t d) = [.iface t d] := rfl
theorem on_agg {cs : List D} : D.one (.agg cs) = false := rfl
theorem oc_agg {cs : List D} : D.okCells (.agg cs) = allOne cs := rfl
theorem ce_agg {cs : List D} : D.cells (.agg cs) = cs := rfl
section
variable {gO : Nat → Option Ob}
theorem dd_val {v : Value} : deepD gO (.val v) = .val v := rfl
theorem dd_sl {nl : Bool} {els : List D} {sz : Nat} {cap : Option Nat} : deepD gO (.sl nl els sz cap) = .sl nl els sz cap := rfl
theorem dd_ptr {d : D} : deepD gO (.ptr d) = .ptr d := rfl
theorem dd_lsl {o off len sz : Nat} {cap : Option Nat} : deepD gO (.lsl o off len sz cap) = .lsl o off len sz cap := rfl
theorem di_val {v : Value} : deepI gO (.val v) = [] := rfl
theorem di_sl {nl : Bool} {els : List D} {sz : Nat} {cap : Option Nat} : deepI gO (.sl nl els sz cap) = [] := rfl
theorem di_ptr {d : D} : deepI gO (.ptr d) = [] := rfl
theorem di_lsl {o off len sz : Nat} {cap : Option Nat} : deepI gO (.lsl o off len sz cap) = [] := rfl
end
def frz (b : Bool) (g : Nat → Option Ob) (ids : List Nat) : List Upd := if b then [] else freeze g ids
theorem frz_nil {b : Bool} {g : Nat → Option Ob} : frz b g [] = [] := by cases b <;> rfl
theorem frz_true {g : Nat → Option Ob} {ids : List Nat} : frz true g ids = [] := rfl
theorem frz_false {g : Nat → Option Ob} {ids : List Nat} : frz false g ids = freeze g ids := rfl
theorem callPure_eq {S : Sm} {objs : List (Nat × Ob)} {nxt : Nat} {K : FuncId} {args : List D} : zd S objs nxt K args = match snapAll (snap (zD objs) fuelD) args with
  | some (args', ids) => match S.pure K args' with
    | some r => some ⟨r, frz (flat fuelD r) (zD objs) ids, ids, nxt⟩
    | none => none
  | none => none := rfl
theorem fl_val {f : Nat} {v : Value} : flat (f + 1) (.val v) = true := rfl
theorem fl_nil {f : Nat} {els : List D} {sz : Nat} {cap : Option Nat} : flat (f + 1) (.sl true els sz cap) = true := rfl
theorem fl_sl {f : Nat} {els : List D} {sz : Nat} {cap : Option Nat} : flat (f + 1) (.sl false els sz cap) = false := rfl
theorem fl_agg {f : Nat} {cs : List D} : flat (f + 1) (.agg cs) = flatL (flat f) cs := rfl
theorem fl_tup {f : Nat} {cs : List D} : flat (f + 1) (.tup cs) = flatL (flat f) cs := rfl
theorem fl_ptr {f : Nat} {d : D} : flat (f + 1) (.ptr d) = false := rfl
theorem fl_fn {f : Nat} {g : Fn} {a b : List D} : flat (f + 1) (.fn g a b) = false := rfl
theorem fl_iface {f : Nat} {t : TypeId} {d : D} : flat (f + 1) (.iface t d) = false := rfl
section
variable {gO : Nat → Option Ob} {f : Nat}
theorem sn_val {v : Value} : snap gO (f + 1) (.val v) = some (.val v, []) := rfl
theorem sn_sl {nl : Bool} {els : List D} {sz : Nat} {cap : Option Nat} : snap gO (f + 1) (.sl nl els sz cap) = some (.sl nl els sz none, []) := rfl
theorem sn_ptr {d : D} : snap gO (f + 1) (.ptr d) = some (.ptr d, []) := rfl
theorem sn_agg {cs : List D} : snap gO (f + 1) (.agg cs) = match snapAll (snap gO f) cs with | some (cs, r) => some (.agg cs, r) | none => none := rfl
theorem sn_tup {cs : List D} : snap gO (f + 1) (.tup cs) = match snapAll (snap gO f) cs with | some (cs, r) => some (.tup cs, r) | none => none := rfl
theorem sn_fn {g : Fn} {a b : List D} : snap gO (f + 1) (.fn g a b) = match snapAll (snap gO f) a, snapAll (snap gO f) b with | some (a, r), some (b, r') => some (.fn g a b, r ++ r') | _, _ => none := rfl
theorem sn_lref {o i sz : Nat} : snap gO (f + 1) (.lref o i sz 0) = match gO o with
      | some ob => if ob.sz = sz then match ob.els[i]? with
        | some e => match snap gO f e with | some (e, r) => some (.ptr e, o :: r) | none => none
        | none => none
        else none
      | none => none := rfl
theorem sn_lsl {o off len sz : Nat} {cap : Option Nat} : snap gO (f + 1) (.lsl o off len sz cap) = match gO o with
      | some ob => if ob.sz = sz && decide (off + len ≤ ob.els.length) then
        match snapAll (snap gO f) ((ob.els.drop off).take len) with | some (es, r) => some (.sl false es sz none, o :: r) | none => none
        else none
      | none => none := rfl
end
/-- A part of code. -/
def subC : List Nat → Code → Code
  | [], c => c
  | i :: p, c => match c with
    | .seq a b => match i with | 0 => subC p a | _ => subC p b
    | .cond _ a b => match i with | 0 => subC p a | _ => subC p b
    | .block _ a => subC p a
    | .loop a => subC p a
    | .scope a => subC p a
    | .rangeFunc _ _ a b => match i with | 0 => subC p a | _ => subC p b
    | c => c
def bodyC (fn : Func) : Code := match fn.body with | some c => c | none => .skip
/-! ### functions -/
/-- What is made of a function's end. -/
def finF (C : Cfg) (fn : Func) (e : Exit) (st : St) : Option (D × List (Nat × Ob) × Nat) := match e with
  | .normal => match resAll C st fn.results.toList with | some ds => some (tupOf ds, st.objs, st.nxt) | none => none
  | .ret => match resAll C st fn.results.toList with | some ds => some (tupOf ds, st.objs, st.nxt) | none => none
  | _ => none
def finP (C : Cfg) (fn : Func) (e : Exit) (st : St) : Option D := match finF C fn e st with
  | some (d, objs, _) => match snap (zD objs) fuelD d with
    | some (d, _) => some d
    | none => none
  | none => none
end
set_option linter.defProp false
/-- Several equations in one. -/
def bO := (And.intro (And.intro (And.intro (And.intro (And.intro @on_int @oc_int) (And.intro @ce_int @on_bool)) (And.intro (And.intro @oc_bool @ce_bool) (And.intro @on_str (And.intro @oc_str @ce_str)))) (And.intro (And.intro (And.intro @on_vptr @oc_vptr) (And.intro @ce_vptr (And.intro @on_vnf @oc_vnf))) (And.intro (And.intro @ce_vnf @on_vni) (And.intro @oc_vni (And.intro @ce_vni @on_sl))))) (And.intro (And.intro (And.intro (And.intro @oc_sl @ce_sl) (And.intro @on_ptr (And.intro @oc_ptr @ce_ptr))) (And.intro (And.intro @on_lref @oc_lref) (And.intro @ce_lref (And.intro @on_lsl @oc_lsl)))) (And.intro (And.intro (And.intro @ce_lsl @on_fn) (And.intro @oc_fn (And.intro @ce_fn @on_iface))) (And.intro (And.intro @oc_iface @ce_iface) (And.intro @on_agg (And.intro @oc_agg @ce_agg))))))
/-- Several equations in one. -/
def bS := (And.intro (And.intro (And.intro (And.intro @sn_val @sn_sl) (And.intro @sn_ptr (And.intro @sn_agg @sn_tup))) (And.intro (And.intro @sn_fn @sn_lref) (And.intro @sn_lsl (And.intro @callPure_eq @frz_nil)))) (And.intro (And.intro (And.intro @frz_true @frz_false) (And.intro @fl_val (And.intro @fl_nil @fl_sl))) (And.intro (And.intro @fl_agg @fl_tup) (And.intro @fl_ptr (And.intro @fl_fn @fl_iface)))))
/-- The size of the elements of a slice that may be nil. -/
def zs (b : Bool) (n : Nat) : Nat := match b with | true => 0 | false => n
theorem zs_false {n : Nat} : zs false n = n := rfl
theorem zs_true {n : Nat} : zs true n = 0 := rfl
attribute [go_sem] zs_true clearD evOp zJ get eqb_dec ltb_dec decide_true decide_false cond_true cond_false evBox evAlloc zeroOk zeroD allOne Bool.and_true Bool.true_and Bool.and_self Bool.and_false Bool.false_and Bool.or_false Bool.or_true Bool.false_or Bool.true_or Bool.not_true Bool.not_false if_true newOb List.length_cons List.length_nil just justO evFieldAddr evField fieldOf List.getElem?_cons_zero List.getElem?_cons_succ Nat.zero_add Nat.add_zero Nat.one_ne_zero evLoad evStore setPart elAt zD Ty.isAgg binD binVal binNil nilKind neqOf kindCode binInt isConstO ofV ofCell evPick Bool.false_eq_true if_false List.take List.drop List.map_cons List.map_nil List.append_nil List.nil_append List.cons_append List.set unD callD snapAll fuelD flatL freeze builtinD lenT evIndexAddr ixSlice ixArr intOfD Int.toNat_natCast Int.natCast_nonneg Int.toNat_zero Int.le_refl Nat.zero_mul Nat.mul_zero convD evExtract buildD fillAgg fillCells placesOf argP eqD eqParts onVals eqVal isAggD Nat.le_refl Array.toList_map List.size_toArray List.getElem?_toArray Nat.sub_zero Nat.mul_one evIndex ixVal bO bS putT ins applyUpd oins odel finP finF resAll resOf tupOf evBuildSlice sliceElem fillEls List.replicate appendD appendE elemsD allOk appSl appLsl newRow isSl List.isEmpty evSlice sliceOf slSlice lslSlice optBound boundD capBehind Option.map_some Option.map_none Option.isNone Option.isSome Option.getD_none Option.getD_some rdOf gc gc0 gcWith rootsT keepT rootsO ids_val ids_sl ids_ptr ids_lref ids_lsl ids_agg ids_tup ids_unk idsL liveFrom_nil liveFrom_succ memN fromPin renT ren_val ren_sl ren_ptr ren_lref ren_lsl ren_agg ren_tup ren_unk renN placeOf pinO renO renOb Nat.not_lt_zero Nat.lt_irrefl deepen deepT deepTI deepO deepOI deepA deepAI deepEl deepElI catI
attribute [irreducible] EvC EvU EvD EvL contK Put
end Go.VS

/-
  VS, part W2: rows of elements that hold no names; slices that a loop appends to. (A text of this claim's own; nothing of it is trusted.)
-/
namespace Go.VS
open Go

/-- Elements of a size that lead to none of the call's own objects. -/
structure EncOK {α : Type} (sz : Nat) (f : α → D) : Prop where
  snap : ∀ g n x, snap g (n + 2) (f x) = some (f x, [])
  ids : ∀ n x, idsD (n + 2) (f x) = some []
  ren : ∀ ρ n x, renD ρ (n + 2) (f x) = f x
  ok : ∀ x, (f x).okCells = true ∧ (f x).cells.length = sz
section
variable {α : Type} {sz : Nat} {f : α → D} (h : EncOK sz f)
include h
theorem EncOK.snapAll (g : Nat → Option Ob) (n : Nat) (l : List α) : Go.VS.snapAll (Go.VS.snap g (n + 2)) (l.map f) = some (l.map f, []) := by
  induction l with
  | nil => rfl
  | cons x l ih => simp only [List.map_cons, Go.VS.snapAll, ih, h.snap]; rfl
theorem EncOK.idsL (n : Nat) (l : List α) : Go.VS.idsL (idsD (n + 2)) (l.map f) = some [] := by
  induction l with
  | nil => rfl
  | cons x l ih => simp only [List.map_cons, Go.VS.idsL, ih, h.ids]; rfl
theorem EncOK.idsL_app (n : Nat) (l : List α) (b : List D) : Go.VS.idsL (idsD (n + 2)) (l.map f ++ b) = Go.VS.idsL (idsD (n + 2)) b := by
  induction l with
  | nil => rfl
  | cons x l ih =>
    simp only [List.map_cons, List.cons_append, Go.VS.idsL, ih, h.ids]
    cases Go.VS.idsL (idsD (n + 2)) b <;> rfl
theorem EncOK.renL (ρ : Nat → Option Nat) (n : Nat) (l : List α) : (l.map f).map (renD ρ (n + 2)) = l.map f := by
  rw [List.map_map]; exact List.map_congr_left fun x _ => h.ren ρ n x
theorem EncOK.allOk (l : List α) : Go.VS.allOk sz (l.map f) = true := by
  induction l with
  | nil => rfl
  | cons x l ih => simp only [List.map_cons, Go.VS.allOk, ih, (h.ok x).1, (h.ok x).2, decide_true, Bool.and_self]
end
def gO (k sz : Nat) {α : Type} (f : α → D) (l : List α) : List (Nat × Ob) := match l with | [] => [] | x :: r => [(k, ⟨(x :: r).map f, sz, false⟩)]
theorem take_all {α β : Type} {f : α → β} (r : List α) : List.take r.length (List.map f r) = List.map f r := by rw [List.take_of_length_le]; simp
section
variable {t : Ty} {sub : Nat}
end
theorem ids_fn {f : Nat} {g : Fn} {a b : List D} : idsD (f + 1) (.fn g a b) = match idsL (idsD f) a, idsL (idsD f) b with | some a, some b => some (a ++ b) | _, _ => none := rfl
theorem ren_fn {ρ : Nat → Option Nat} {f : Nat} {g : Fn} {a b : List D} : renD ρ (f + 1) (.fn g a b) = .fn g (a.map (renD ρ f)) (b.map (renD ρ f)) := rfl
theorem ids_iface {f : Nat} {t : TypeId} {d : D} : idsD (f + 1) (.iface t d) = idsD f d := rfl
theorem ren_iface {ρ : Nat → Option Nat} {f : Nat} {t : TypeId} {d : D} : renD ρ (f + 1) (.iface t d) = .iface t (renD ρ f d) := rfl
set_option linter.defProp false
def bI2 := (And.intro (And.intro @ids_fn @ren_fn) (And.intro @ids_iface @ren_iface))
end Go.VS

namespace Go.VS.F0
open Go Go.Proofs
noncomputable def cfg : Cfg := { P := Try.prog, fn := zK.find, ty := tyTab.find, keep := find2 keepTab, inl := fun K => memN K [37, 38, 39, 70, 80, 86, 97, 100, 101, 102, 103, 104, 105, 107, 108, 112, 113, 115, 116, 117, 118, 119, 120, 121, 122, 123, 124, 125, 126, 127, 128, 129, 130], ext := fun _ => none, xinl := fun _ => none, glob := fun _ => none, eqok := fun t => (eqTab.find t).isSome }
theorem cfg_fn : cfg.fn = zK.find := rfl
theorem cfg_ty : cfg.ty = tyTab.find := rfl
theorem cfg_eqok (t : TypeId) : cfg.eqok t = (eqTab.find t).isSome := rfl
theorem cfgOK : CfgOK cfg where
  ty := fun _ _ h => tyTab_ok.find h
  fn := fun _ _ h => fnTab_ok.find h
  enter := fun _ _ h => enTab_ok.find h
  mixed := by kernel_rfl
  eqok := fun t h => by
    have h1 : (eqTab.find t).isSome = true := h
    cases hf : eqTab.find t with
    | none => rw [hf] at h1; cases h1
    | some u =>
      have := eqTab_ok.find hf
      unfold eqB at this
      simp only [Bool.and_eq_true, Bool.not_eq_true'] at this
      refine ⟨this.1.1, this.1.2, fun fs hfs f hm => ?_⟩
      have h2 := this.2
      have hfs' : Try.prog.underlying t = some (.struct fs) := hfs
      rw [hfs'] at h2
      simp only [List.all_eq_true, bne_iff_ne] at h2
      exact h2 f hm
theorem globOK {M : Mem} : yg cfg M := fun g d h => by cases h
theorem ck {S : Sm} {objs : List (Nat × Ob)} {nxt K : Nat} {args : List D} {fn : Func} (h : zK.find K = some fn) (hi : memN K [37, 38, 39, 70, 80, 86, 97, 100, 101, 102, 103, 104, 105, 107, 108, 112, 113, 115, 116, 117, 118, 119, 120, 121, 122, 123, 124, 125, 126, 127, 128, 129, 130] = false) : zm cfg S objs nxt K args = zd S objs nxt K args := by
  simp only [zm, cfg_fn, h]
  rw [show cfg.inl K = memN K [37, 38, 39, 70, 80, 86, 97, 100, 101, 102, 103, 104, 105, 107, 108, 112, 113, 115, 116, 117, 118, 119, 120, 121, 122, 123, 124, 125, 126, 127, 128, 129, 130] from rfl, hi]
  rfl
theorem lck2 {S : Sm} {objs : List (Nat × Ob)} {nxt : Nat} {args : List D} : zm cfg S objs nxt 2 args = zd S objs nxt 2 args := ck cfn2 rfl
theorem lck3 {S : Sm} {objs : List (Nat × Ob)} {nxt : Nat} {args : List D} : zm cfg S objs nxt 3 args = zd S objs nxt 3 args := ck cfn3 rfl
theorem lck4 {S : Sm} {objs : List (Nat × Ob)} {nxt : Nat} {args : List D} : zm cfg S objs nxt 4 args = zd S objs nxt 4 args := ck cfn4 rfl
theorem lck5 {S : Sm} {objs : List (Nat × Ob)} {nxt : Nat} {args : List D} : zm cfg S objs nxt 5 args = zd S objs nxt 5 args := ck cfn5 rfl
theorem lck6 {S : Sm} {objs : List (Nat × Ob)} {nxt : Nat} {args : List D} : zm cfg S objs nxt 6 args = zd S objs nxt 6 args := ck cfn6 rfl
theorem lck7 {S : Sm} {objs : List (Nat × Ob)} {nxt : Nat} {args : List D} : zm cfg S objs nxt 7 args = zd S objs nxt 7 args := ck cfn7 rfl
theorem lck8 {S : Sm} {objs : List (Nat × Ob)} {nxt : Nat} {args : List D} : zm cfg S objs nxt 8 args = zd S objs nxt 8 args := ck cfn8 rfl
theorem lck9 {S : Sm} {objs : List (Nat × Ob)} {nxt : Nat} {args : List D} : zm cfg S objs nxt 9 args = zd S objs nxt 9 args := ck cfn9 rfl
theorem lck10 {S : Sm} {objs : List (Nat × Ob)} {nxt : Nat} {args : List D} : zm cfg S objs nxt 10 args = zd S objs nxt 10 args := ck cfn10 rfl
theorem lck11 {S : Sm} {objs : List (Nat × Ob)} {nxt : Nat} {args : List D} : zm cfg S objs nxt 11 args = zd S objs nxt 11 args := ck cfn11 rfl
theorem lck12 {S : Sm} {objs : List (Nat × Ob)} {nxt : Nat} {args : List D} : zm cfg S objs nxt 12 args = zd S objs nxt 12 args := ck cfn12 rfl
theorem lck13 {S : Sm} {objs : List (Nat × Ob)} {nxt : Nat} {args : List D} : zm cfg S objs nxt 13 args = zd S objs nxt 13 args := ck cfn13 rfl
theorem lck14 {S : Sm} {objs : List (Nat × Ob)} {nxt : Nat} {args : List D} : zm cfg S objs nxt 14 args = zd S objs nxt 14 args := ck cfn14 rfl
theorem lck15 {S : Sm} {objs : List (Nat × Ob)} {nxt : Nat} {args : List D} : zm cfg S objs nxt 15 args = zd S objs nxt 15 args := ck cfn15 rfl
theorem lck16 {S : Sm} {objs : List (Nat × Ob)} {nxt : Nat} {args : List D} : zm cfg S objs nxt 16 args = zd S objs nxt 16 args := ck cfn16 rfl
theorem lck17 {S : Sm} {objs : List (Nat × Ob)} {nxt : Nat} {args : List D} : zm cfg S objs nxt 17 args = zd S objs nxt 17 args := ck cfn17 rfl
theorem lck18 {S : Sm} {objs : List (Nat × Ob)} {nxt : Nat} {args : List D} : zm cfg S objs nxt 18 args = zd S objs nxt 18 args := ck cfn18 rfl
theorem lck19 {S : Sm} {objs : List (Nat × Ob)} {nxt : Nat} {args : List D} : zm cfg S objs nxt 19 args = zd S objs nxt 19 args := ck cfn19 rfl
theorem lck20 {S : Sm} {objs : List (Nat × Ob)} {nxt : Nat} {args : List D} : zm cfg S objs nxt 20 args = zd S objs nxt 20 args := ck cfn20 rfl
theorem lck21 {S : Sm} {objs : List (Nat × Ob)} {nxt : Nat} {args : List D} : zm cfg S objs nxt 21 args = zd S objs nxt 21 args := ck cfn21 rfl
theorem lck22 {S : Sm} {objs : List (Nat × Ob)} {nxt : Nat} {args : List D} : zm cfg S objs nxt 22 args = zd S objs nxt 22 args := ck cfn22 rfl
theorem lck23 {S : Sm} {objs : List (Nat × Ob)} {nxt : Nat} {args : List D} : zm cfg S objs nxt 23 args = zd S objs nxt 23 args := ck cfn23 rfl
theorem lck24 {S : Sm} {objs : List (Nat × Ob)} {nxt : Nat} {args : List D} : zm cfg S objs nxt 24 args = zd S objs nxt 24 args := ck cfn24 rfl
theorem lck25 {S : Sm} {objs : List (Nat × Ob)} {nxt : Nat} {args : List D} : zm cfg S objs nxt 25 args = zd S objs nxt 25 args := ck cfn25 rfl
theorem lck26 {S : Sm} {objs : List (Nat × Ob)} {nxt : Nat} {args : List D} : zm cfg S objs nxt 26 args = zd S objs nxt 26 args := ck cfn26 rfl
theorem lck27 {S : Sm} {objs : List (Nat × Ob)} {nxt : Nat} {args : List D} : zm cfg S objs nxt 27 args = zd S objs nxt 27 args := ck cfn27 rfl
theorem lck28 {S : Sm} {objs : List (Nat × Ob)} {nxt : Nat} {args : List D} : zm cfg S objs nxt 28 args = zd S objs nxt 28 args := ck cfn28 rfl
theorem lck29 {S : Sm} {objs : List (Nat × Ob)} {nxt : Nat} {args : List D} : zm cfg S objs nxt 29 args = zd S objs nxt 29 args := ck cfn29 rfl
theorem lck30 {S : Sm} {objs : List (Nat × Ob)} {nxt : Nat} {args : List D} : zm cfg S objs nxt 30 args = zd S objs nxt 30 args := ck cfn30 rfl
theorem lck31 {S : Sm} {objs : List (Nat × Ob)} {nxt : Nat} {args : List D} : zm cfg S objs nxt 31 args = zd S objs nxt 31 args := ck cfn31 rfl
theorem lck32 {S : Sm} {objs : List (Nat × Ob)} {nxt : Nat} {args : List D} : zm cfg S objs nxt 32 args = zd S objs nxt 32 args := ck cfn32 rfl
theorem lck33 {S : Sm} {objs : List (Nat × Ob)} {nxt : Nat} {args : List D} : zm cfg S objs nxt 33 args = zd S objs nxt 33 args := ck cfn33 rfl
theorem lck34 {S : Sm} {objs : List (Nat × Ob)} {nxt : Nat} {args : List D} : zm cfg S objs nxt 34 args = zd S objs nxt 34 args := ck cfn34 rfl
theorem lck35 {S : Sm} {objs : List (Nat × Ob)} {nxt : Nat} {args : List D} : zm cfg S objs nxt 35 args = zd S objs nxt 35 args := ck cfn35 rfl
theorem lck36 {S : Sm} {objs : List (Nat × Ob)} {nxt : Nat} {args : List D} : zm cfg S objs nxt 36 args = zd S objs nxt 36 args := ck cfn36 rfl
theorem lck40 {S : Sm} {objs : List (Nat × Ob)} {nxt : Nat} {args : List D} : zm cfg S objs nxt 40 args = zd S objs nxt 40 args := ck cfn40 rfl
theorem lck41 {S : Sm} {objs : List (Nat × Ob)} {nxt : Nat} {args : List D} : zm cfg S objs nxt 41 args = zd S objs nxt 41 args := ck cfn41 rfl
theorem lck42 {S : Sm} {objs : List (Nat × Ob)} {nxt : Nat} {args : List D} : zm cfg S objs nxt 42 args = zd S objs nxt 42 args := ck cfn42 rfl
theorem lck43 {S : Sm} {objs : List (Nat × Ob)} {nxt : Nat} {args : List D} : zm cfg S objs nxt 43 args = zd S objs nxt 43 args := ck cfn43 rfl
theorem lck44 {S : Sm} {objs : List (Nat × Ob)} {nxt : Nat} {args : List D} : zm cfg S objs nxt 44 args = zd S objs nxt 44 args := ck cfn44 rfl
theorem lck45 {S : Sm} {objs : List (Nat × Ob)} {nxt : Nat} {args : List D} : zm cfg S objs nxt 45 args = zd S objs nxt 45 args := ck cfn45 rfl
theorem lck46 {S : Sm} {objs : List (Nat × Ob)} {nxt : Nat} {args : List D} : zm cfg S objs nxt 46 args = zd S objs nxt 46 args := ck cfn46 rfl
theorem lck47 {S : Sm} {objs : List (Nat × Ob)} {nxt : Nat} {args : List D} : zm cfg S objs nxt 47 args = zd S objs nxt 47 args := ck cfn47 rfl
theorem lck48 {S : Sm} {objs : List (Nat × Ob)} {nxt : Nat} {args : List D} : zm cfg S objs nxt 48 args = zd S objs nxt 48 args := ck cfn48 rfl
theorem lck49 {S : Sm} {objs : List (Nat × Ob)} {nxt : Nat} {args : List D} : zm cfg S objs nxt 49 args = zd S objs nxt 49 args := ck cfn49 rfl
theorem lck50 {S : Sm} {objs : List (Nat × Ob)} {nxt : Nat} {args : List D} : zm cfg S objs nxt 50 args = zd S objs nxt 50 args := ck cfn50 rfl
theorem lck51 {S : Sm} {objs : List (Nat × Ob)} {nxt : Nat} {args : List D} : zm cfg S objs nxt 51 args = zd S objs nxt 51 args := ck cfn51 rfl
theorem lck52 {S : Sm} {objs : List (Nat × Ob)} {nxt : Nat} {args : List D} : zm cfg S objs nxt 52 args = zd S objs nxt 52 args := ck cfn52 rfl
theorem lck53 {S : Sm} {objs : List (Nat × Ob)} {nxt : Nat} {args : List D} : zm cfg S objs nxt 53 args = zd S objs nxt 53 args := ck cfn53 rfl
theorem lck54 {S : Sm} {objs : List (Nat × Ob)} {nxt : Nat} {args : List D} : zm cfg S objs nxt 54 args = zd S objs nxt 54 args := ck cfn54 rfl
theorem lck55 {S : Sm} {objs : List (Nat × Ob)} {nxt : Nat} {args : List D} : zm cfg S objs nxt 55 args = zd S objs nxt 55 args := ck cfn55 rfl
theorem lck56 {S : Sm} {objs : List (Nat × Ob)} {nxt : Nat} {args : List D} : zm cfg S objs nxt 56 args = zd S objs nxt 56 args := ck cfn56 rfl
theorem lck57 {S : Sm} {objs : List (Nat × Ob)} {nxt : Nat} {args : List D} : zm cfg S objs nxt 57 args = zd S objs nxt 57 args := ck cfn57 rfl
theorem lck58 {S : Sm} {objs : List (Nat × Ob)} {nxt : Nat} {args : List D} : zm cfg S objs nxt 58 args = zd S objs nxt 58 args := ck cfn58 rfl
theorem lck59 {S : Sm} {objs : List (Nat × Ob)} {nxt : Nat} {args : List D} : zm cfg S objs nxt 59 args = zd S objs nxt 59 args := ck cfn59 rfl
theorem lck60 {S : Sm} {objs : List (Nat × Ob)} {nxt : Nat} {args : List D} : zm cfg S objs nxt 60 args = zd S objs nxt 60 args := ck cfn60 rfl
theorem lck61 {S : Sm} {objs : List (Nat × Ob)} {nxt : Nat} {args : List D} : zm cfg S objs nxt 61 args = zd S objs nxt 61 args := ck cfn61 rfl
theorem lck62 {S : Sm} {objs : List (Nat × Ob)} {nxt : Nat} {args : List D} : zm cfg S objs nxt 62 args = zd S objs nxt 62 args := ck cfn62 rfl
theorem lck63 {S : Sm} {objs : List (Nat × Ob)} {nxt : Nat} {args : List D} : zm cfg S objs nxt 63 args = zd S objs nxt 63 args := ck cfn63 rfl
theorem lck64 {S : Sm} {objs : List (Nat × Ob)} {nxt : Nat} {args : List D} : zm cfg S objs nxt 64 args = zd S objs nxt 64 args := ck cfn64 rfl
theorem lck65 {S : Sm} {objs : List (Nat × Ob)} {nxt : Nat} {args : List D} : zm cfg S objs nxt 65 args = zd S objs nxt 65 args := ck cfn65 rfl
theorem lck66 {S : Sm} {objs : List (Nat × Ob)} {nxt : Nat} {args : List D} : zm cfg S objs nxt 66 args = zd S objs nxt 66 args := ck cfn66 rfl
theorem lck67 {S : Sm} {objs : List (Nat × Ob)} {nxt : Nat} {args : List D} : zm cfg S objs nxt 67 args = zd S objs nxt 67 args := ck cfn67 rfl
theorem lck68 {S : Sm} {objs : List (Nat × Ob)} {nxt : Nat} {args : List D} : zm cfg S objs nxt 68 args = zd S objs nxt 68 args := ck cfn68 rfl
theorem lck69 {S : Sm} {objs : List (Nat × Ob)} {nxt : Nat} {args : List D} : zm cfg S objs nxt 69 args = zd S objs nxt 69 args := ck cfn69 rfl
theorem lck71 {S : Sm} {objs : List (Nat × Ob)} {nxt : Nat} {args : List D} : zm cfg S objs nxt 71 args = zd S objs nxt 71 args := ck cfn71 rfl
theorem lck72 {S : Sm} {objs : List (Nat × Ob)} {nxt : Nat} {args : List D} : zm cfg S objs nxt 72 args = zd S objs nxt 72 args := ck cfn72 rfl
theorem lck73 {S : Sm} {objs : List (Nat × Ob)} {nxt : Nat} {args : List D} : zm cfg S objs nxt 73 args = zd S objs nxt 73 args := ck cfn73 rfl
theorem lck74 {S : Sm} {objs : List (Nat × Ob)} {nxt : Nat} {args : List D} : zm cfg S objs nxt 74 args = zd S objs nxt 74 args := ck cfn74 rfl
theorem lck75 {S : Sm} {objs : List (Nat × Ob)} {nxt : Nat} {args : List D} : zm cfg S objs nxt 75 args = zd S objs nxt 75 args := ck cfn75 rfl
theorem lck76 {S : Sm} {objs : List (Nat × Ob)} {nxt : Nat} {args : List D} : zm cfg S objs nxt 76 args = zd S objs nxt 76 args := ck cfn76 rfl
theorem lck77 {S : Sm} {objs : List (Nat × Ob)} {nxt : Nat} {args : List D} : zm cfg S objs nxt 77 args = zd S objs nxt 77 args := ck cfn77 rfl
theorem lck78 {S : Sm} {objs : List (Nat × Ob)} {nxt : Nat} {args : List D} : zm cfg S objs nxt 78 args = zd S objs nxt 78 args := ck cfn78 rfl
theorem lck79 {S : Sm} {objs : List (Nat × Ob)} {nxt : Nat} {args : List D} : zm cfg S objs nxt 79 args = zd S objs nxt 79 args := ck cfn79 rfl
theorem lck81 {S : Sm} {objs : List (Nat × Ob)} {nxt : Nat} {args : List D} : zm cfg S objs nxt 81 args = zd S objs nxt 81 args := ck cfn81 rfl
theorem lck82 {S : Sm} {objs : List (Nat × Ob)} {nxt : Nat} {args : List D} : zm cfg S objs nxt 82 args = zd S objs nxt 82 args := ck cfn82 rfl
theorem lck83 {S : Sm} {objs : List (Nat × Ob)} {nxt : Nat} {args : List D} : zm cfg S objs nxt 83 args = zd S objs nxt 83 args := ck cfn83 rfl
theorem lck84 {S : Sm} {objs : List (Nat × Ob)} {nxt : Nat} {args : List D} : zm cfg S objs nxt 84 args = zd S objs nxt 84 args := ck cfn84 rfl
theorem lck85 {S : Sm} {objs : List (Nat × Ob)} {nxt : Nat} {args : List D} : zm cfg S objs nxt 85 args = zd S objs nxt 85 args := ck cfn85 rfl
theorem lck87 {S : Sm} {objs : List (Nat × Ob)} {nxt : Nat} {args : List D} : zm cfg S objs nxt 87 args = zd S objs nxt 87 args := ck cfn87 rfl
theorem lck88 {S : Sm} {objs : List (Nat × Ob)} {nxt : Nat} {args : List D} : zm cfg S objs nxt 88 args = zd S objs nxt 88 args := ck cfn88 rfl
theorem lck89 {S : Sm} {objs : List (Nat × Ob)} {nxt : Nat} {args : List D} : zm cfg S objs nxt 89 args = zd S objs nxt 89 args := ck cfn89 rfl
theorem lck90 {S : Sm} {objs : List (Nat × Ob)} {nxt : Nat} {args : List D} : zm cfg S objs nxt 90 args = zd S objs nxt 90 args := ck cfn90 rfl
theorem lck91 {S : Sm} {objs : List (Nat × Ob)} {nxt : Nat} {args : List D} : zm cfg S objs nxt 91 args = zd S objs nxt 91 args := ck cfn91 rfl
theorem lck92 {S : Sm} {objs : List (Nat × Ob)} {nxt : Nat} {args : List D} : zm cfg S objs nxt 92 args = zd S objs nxt 92 args := ck cfn92 rfl
theorem lck93 {S : Sm} {objs : List (Nat × Ob)} {nxt : Nat} {args : List D} : zm cfg S objs nxt 93 args = zd S objs nxt 93 args := ck cfn93 rfl
theorem lck94 {S : Sm} {objs : List (Nat × Ob)} {nxt : Nat} {args : List D} : zm cfg S objs nxt 94 args = zd S objs nxt 94 args := ck cfn94 rfl
theorem lck95 {S : Sm} {objs : List (Nat × Ob)} {nxt : Nat} {args : List D} : zm cfg S objs nxt 95 args = zd S objs nxt 95 args := ck cfn95 rfl
theorem lck96 {S : Sm} {objs : List (Nat × Ob)} {nxt : Nat} {args : List D} : zm cfg S objs nxt 96 args = zd S objs nxt 96 args := ck cfn96 rfl
theorem lck98 {S : Sm} {objs : List (Nat × Ob)} {nxt : Nat} {args : List D} : zm cfg S objs nxt 98 args = zd S objs nxt 98 args := ck cfn98 rfl
theorem lck99 {S : Sm} {objs : List (Nat × Ob)} {nxt : Nat} {args : List D} : zm cfg S objs nxt 99 args = zd S objs nxt 99 args := ck cfn99 rfl
theorem lck106 {S : Sm} {objs : List (Nat × Ob)} {nxt : Nat} {args : List D} : zm cfg S objs nxt 106 args = zd S objs nxt 106 args := ck cfn106 rfl
theorem lck109 {S : Sm} {objs : List (Nat × Ob)} {nxt : Nat} {args : List D} : zm cfg S objs nxt 109 args = zd S objs nxt 109 args := ck cfn109 rfl
theorem lck110 {S : Sm} {objs : List (Nat × Ob)} {nxt : Nat} {args : List D} : zm cfg S objs nxt 110 args = zd S objs nxt 110 args := ck cfn110 rfl
theorem lck111 {S : Sm} {objs : List (Nat × Ob)} {nxt : Nat} {args : List D} : zm cfg S objs nxt 111 args = zd S objs nxt 111 args := ck cfn111 rfl
theorem lck114 {S : Sm} {objs : List (Nat × Ob)} {nxt : Nat} {args : List D} : zm cfg S objs nxt 114 args = zd S objs nxt 114 args := ck cfn114 rfl
set_option linter.defProp false
def cks := (And.intro (And.intro (And.intro (And.intro (And.intro (And.intro @lck2 (And.intro @lck3 @lck4)) (And.intro @lck5 (And.intro @lck6 @lck7))) (And.intro (And.intro @lck8 (And.intro @lck9 @lck10)) (And.intro @lck11 (And.intro @lck12 @lck13)))) (And.intro (And.intro (And.intro @lck14 (And.intro @lck15 @lck16)) (And.intro @lck17 (And.intro @lck18 @lck19))) (And.intro (And.intro @lck20 (And.intro @lck21 @lck22)) (And.intro @lck23 (And.intro @lck24 @lck25))))) (And.intro (And.intro (And.intro (And.intro @lck26 (And.intro @lck27 @lck28)) (And.intro @lck29 (And.intro @lck30 @lck31))) (And.intro (And.intro @lck32 (And.intro @lck33 @lck34)) (And.intro @lck35 (And.intro @lck36 @lck40)))) (And.intro (And.intro (And.intro @lck41 (And.intro @lck42 @lck43)) (And.intro @lck44 (And.intro @lck45 @lck46))) (And.intro (And.intro @lck47 (And.intro @lck48 @lck49)) (And.intro @lck50 (And.intro @lck51 @lck52)))))) (And.intro (And.intro (And.intro (And.intro (And.intro @lck53 (And.intro @lck54 @lck55)) (And.intro @lck56 (And.intro @lck57 @lck58))) (And.intro (And.intro @lck59 (And.intro @lck60 @lck61)) (And.intro @lck62 (And.intro @lck63 @lck64)))) (And.intro (And.intro (And.intro @lck65 (And.intro @lck66 @lck67)) (And.intro @lck68 (And.intro @lck69 @lck71))) (And.intro (And.intro @lck72 (And.intro @lck73 @lck74)) (And.intro @lck75 (And.intro @lck76 @lck77))))) (And.intro (And.intro (And.intro (And.intro @lck78 (And.intro @lck79 @lck81)) (And.intro @lck82 (And.intro @lck83 @lck84))) (And.intro (And.intro @lck85 (And.intro @lck87 @lck88)) (And.intro @lck89 (And.intro @lck90 @lck91)))) (And.intro (And.intro (And.intro @lck92 (And.intro @lck93 @lck94)) (And.intro @lck95 (And.intro @lck96 @lck98))) (And.intro (And.intro @lck99 (And.intro @lck106 @lck109)) (And.intro @lck110 (And.intro @lck111 @lck114)))))))
attribute [go_sem] tys cks cfg_ty cfg_eqok zs_false
theorem extOK : ExtOK cfg where
  pure := fun K g args d h => by cases h
  inl := fun K g args objs nxt d objs' nxt' h => by cases h
end Go.VS.F0

/-
  VS, part V: a way through code, what it meets being told beforehand. (A text of this claim's own; nothing of it is trusted.)
-/
namespace Go.VS
open Go

/-- What is told: how a Bool turns out; what a call answers; an element of a slice; what an operation comes to; what a loop, a range over a function come to. -/
inductive Ora where
  | dec (b : Bool)
  | pure (d : D)
  | pureS (d : D) (fl : Bool) (a : List (Nat × D × List Nat))
  | inl (d : D) (objs : List (Nat × Ob)) (nxt : Nat)
  | inlS (ids : List Nat) (d : D) (objs : List (Nat × Ob)) (nxt : Nat)
  | el (d : D)
  | op (t : Option Tmp) (r : Out)
  | rw (t : Tmp) (d : D)
  | stS (k : Nat) (r : Out)
  | loop (e : Exit) (st : St)
  | gloop (st1 : St) (e : Exit) (st : St)
  | iter (objs : List (Nat × Ob)) (nxt : Nat) (p : Option Code)
  | loopY (e : Exit) (st : St) (p : Option Code)
  | gloopY (st1 : St) (e : Exit) (st : St) (p : Option Code)
  | cut
def allP : List Prop → Prop
  | [] => True
  | p :: r => p ∧ allP r
def dead : Sm := ⟨fun _ _ => none, fun _ _ _ _ => none, fun _ _ _ => none, fun _ _ _ _ => none, fun _ _ _ _ _ => none⟩
theorem dead_le (S : Sm) : Le dead S := ⟨fun _ _ _ h => by simp [dead] at h, fun _ _ _ _ _ h => by simp [dead] at h, fun _ _ _ _ h => by simp [dead] at h, fun _ _ _ _ _ h => by simp [dead] at h, fun _ _ _ _ _ _ h => by simp [dead] at h⟩

/-! ### copies, rows being told -/
abbrev SA := List (Nat × D × List Nat)
def snapAllP (g : D → SA → List Prop → Option (D × List Nat × SA × List Prop)) : List D → SA → List Prop → Option (List D × List Nat × SA × List Prop)
  | [], a, p => some ([], [], a, p)
  | d :: ds, a, p => match g d a p with
    | some (d, r, a, p) => match snapAllP g ds a p with
      | some (ds, r', a, p) => some (d :: ds, r ++ r', a, p)
      | none => none
    | none => none
def hitS (o f : Nat) : SA → Option (D × List Nat × SA)
  | (o', d, r) :: a => match eqb o o' && ltb 1 f with | true => some (d, r, a) | false => none
  | [] => none
def snapP (gO : Nat → Option Ob) : Nat → D → SA → List Prop → Option (D × List Nat × SA × List Prop)
  | 0, _, _, _ => none
  | f + 1, d, a, p => match d with
    | .agg cs => match snapAllP (snapP gO f) cs a p with | some (cs, r, a, p) => some (.agg cs, r, a, p) | none => none
    | .tup cs => match snapAllP (snapP gO f) cs a p with | some (cs, r, a, p) => some (.tup cs, r, a, p) | none => none
    | .fn g x y => match snapAllP (snapP gO f) x a p with
      | some (x, r, a, p) => match snapAllP (snapP gO f) y a p with
        | some (y, r', a, p) => some (.fn g x y, r ++ r', a, p)
        | none => none
      | none => none
    | .lref o i sz sub => if sub = 0 then match gO o with
      | some ob => if ob.sz = sz then match ob.els[i]? with
        | some e => match snapP gO f e a p with | some (e, r, a, p) => some (.ptr e, o :: r, a, p) | none => none
        | none => none
        else none
      | none => none
      else none
    | .lsl o off len sz cap => match hitS o f a with
      | some (d, r, a) => some (d, r, a, (∀ n, snap gO (n + 3) (.lsl o off len sz cap) = some (d, r)) :: p)
      | none => match snap gO (f + 1) (.lsl o off len sz cap) with | some (d, r) => some (d, r, a, p) | none => none
    | d => match snap gO (f + 1) d with | some (d, r) => some (d, r, a, p) | none => none
theorem snapAllP_sound {gO : Nat → Option Ob} {f : Nat} (ih : ∀ d a p d' r a' p', snapP gO f d a p = some (d', r, a', p') → allP p' → snap gO f d = some (d', r) ∧ allP p) :
    ∀ ds a p ds' r a' p', snapAllP (snapP gO f) ds a p = some (ds', r, a', p') → allP p' → snapAll (snap gO f) ds = some (ds', r) ∧ allP p
  | [], a, p, ds', r, a', p', h, hp => by simp only [snapAllP, Option.some.injEq, Prod.mk.injEq] at h; obtain ⟨rfl, rfl, rfl, rfl⟩ := h; exact ⟨rfl, hp⟩
  | d :: ds, a, p, ds', r, a', p', h, hp => by
    simp only [snapAllP] at h
    split at h
    · rename_i d1 r1 a1 p1 h1
      split at h
      · rename_i ds2 r2 a2 p2 h2
        cases h
        obtain ⟨h3, h4⟩ := snapAllP_sound ih _ _ _ _ _ _ _ h2 hp
        obtain ⟨h5, h6⟩ := ih _ _ _ _ _ _ _ h1 h4
        simp only [snapAll, h5, h3]
        exact ⟨trivial, h6⟩
      · cases h
    · cases h
theorem snapP_sound {gO : Nat → Option Ob} : ∀ (f : Nat) (d : D) (a : SA) (p : List Prop) (d' : D) (r : List Nat) (a' : SA) (p' : List Prop), snapP gO f d a p = some (d', r, a', p') → allP p' → snap gO f d = some (d', r) ∧ allP p
  | 0, _, _, _, _, _, _, _, h, _ => by simp [snapP] at h
  | f + 1, d, a, p, d', r, a', p', h, hp => by
    have ih := snapAllP_sound (gO := gO) (f := f) (fun d a p d' r a' p' h hp => snapP_sound f d a p d' r a' p' h hp)
    unfold snapP at h
    split at h
    · split at h
      · rename_i h1
        cases h
        obtain ⟨h2, h3⟩ := ih _ _ _ _ _ _ _ h1 hp
        simp only [snap, h2]
        exact ⟨trivial, h3⟩
      · cases h
    · split at h
      · rename_i h1
        cases h
        obtain ⟨h2, h3⟩ := ih _ _ _ _ _ _ _ h1 hp
        simp only [snap, h2]
        exact ⟨trivial, h3⟩
      · cases h
    · split at h
      · rename_i h1
        split at h
        · rename_i h2
          cases h
          obtain ⟨h3, h4⟩ := ih _ _ _ _ _ _ _ h2 hp
          obtain ⟨h5, h6⟩ := ih _ _ _ _ _ _ _ h1 h4
          simp only [snap, h3, h5]
          exact ⟨trivial, h6⟩
        · cases h
      · cases h
    · split at h
      · rename_i hsub
        split at h
        · rename_i ob hob
          split at h
          · rename_i hsz
            split at h
            · rename_i e he
              split at h
              · rename_i h1
                cases h
                obtain ⟨h2, h3⟩ := snapP_sound f _ _ _ _ _ _ _ h1 hp
                simp only [snap, hsub, hob, hsz, he, h2, if_true]
                exact ⟨trivial, h3⟩
              · cases h
            · cases h
          · cases h
        · cases h
      · cases h
    · split at h
      · rename_i hh
        cases h
        unfold hitS at hh
        split at hh
        · split at hh
          · rename_i hc
            cases hh
            simp only [Bool.and_eq_true] at hc
            have hf := ltb_iff.1 hc.2
            obtain ⟨m, rfl⟩ : ∃ m, f = m + 2 := ⟨f - 2, by omega⟩
            exact ⟨hp.1 m, hp.2⟩
          · cases hh
        · cases hh
      · split at h
        · rename_i h1
          cases h
          exact ⟨h1, hp⟩
        · cases h
    · split at h
      · rename_i h1
        cases h
        exact ⟨h1, hp⟩
      · cases h
/-- A call of a function that is handed copies, rows being told. -/
def pureSO (C : Cfg) (S : Sm) (gT : Nat → D) (objs : List (Nat × Ob)) (nxt : Nat) (o : Op) (d : D) (fl : Bool) (a : SA) : Option (Out × Prop) := match o with
  | .call c => match c.callee with
    | .value f => match zJ C gT f with
      | .fn g first captured => match g with
        | .func K => match C.fn K with
          | some _ => match C.inl K with
            | true => none
            | false => match snapAllP (snapP (zD objs) fuelD) (first ++ c.args.toList.map (zJ C gT) ++ captured) a [] with
              | some (args', ids, _, p) => some (⟨d, match fl with | true => [] | false => freeze (zD objs) ids, ids, nxt⟩, flat fuelD d = fl ∧ allP p ∧ S.pure K args' = some d)
              | none => none
          | none => none
        | _ => none
      | _ => none
    | _ => none
  | _ => none
/-- A call of a function that is handed deep values. -/
def pureO (C : Cfg) (S : Sm) (gT : Nat → D) (objs : List (Nat × Ob)) (nxt : Nat) (o : Op) (d : D) : Option (Out × Prop) := match o with
  | .call c => match c.callee with
    | .value f => match zJ C gT f with
      | .fn g first captured => match g with
        | .func K => match C.fn K with
          | some _ => match C.inl K with
            | true => none
            | false => match snapAll (snap (zD objs) fuelD) (first ++ c.args.toList.map (zJ C gT) ++ captured) with
              | some (args', ids) => match ids with
                | [] => some (⟨d, [], [], nxt⟩, S.pure K args' = some d)
                | i :: ids => some (⟨d, if flat fuelD d then [] else freeze (zD objs) (i :: ids), i :: ids, nxt⟩, S.pure K args' = some d)
              | none => none
          | none => none
        | _ => none
      | _ => none
    | _ => none
  | _ => none
/-- A call of a function that is handed the caller's own memory. -/
def inlO (C : Cfg) (S : Sm) (gT : Nat → D) (objs : List (Nat × Ob)) (nxt : Nat) (o : Op) (d : D) (objs' : List (Nat × Ob)) (nxt' : Nat) : Option (Out × Prop) := match o with
  | .call c => match c.callee with
    | .value f => match zJ C gT f with
      | .fn g first captured => match g with
        | .func K => match C.fn K with
          | some _ => match C.inl K with
            | false => none
            | true => match idsL (idsD fuelD) (first ++ c.args.toList.map (zJ C gT) ++ captured) with
              | some l => match liveFrom objs 256 l [] with
                | some ids => match allBelow nxt ids with
                  | true => match ltb nxt' nxt with
                    | false => some (⟨d, allUpd objs' (ids ++ keysO objs'), ids, nxt'⟩, S.inl K (first ++ c.args.toList.map (zJ C gT) ++ captured) (only ids objs) nxt = some (d, objs', nxt'))
                    | true => none
                  | false => none
                | none => none
              | none => none
          | none => none
        | _ => none
      | _ => none
    | _ => none
  | _ => none
/-- The same, what it reaches being told. -/
def inlSO (C : Cfg) (S : Sm) (gT : Nat → D) (objs : List (Nat × Ob)) (nxt : Nat) (o : Op) (ids : List Nat) (d : D) (objs' : List (Nat × Ob)) (nxt' : Nat) : Option (Out × Prop) := match o with
  | .call c => match c.callee with
    | .value f => match zJ C gT f with
      | .fn g first captured => match g with
        | .func K => match C.fn K with
          | some _ => match C.inl K with
            | false => none
            | true => match idsL (idsD fuelD) (first ++ c.args.toList.map (zJ C gT) ++ captured) with
              | some l => match allBelow nxt ids with
                | true => match ltb nxt' nxt with
                  | false => some (⟨d, allUpd objs' (ids ++ keysO objs'), ids, nxt'⟩, liveFrom objs 256 l [] = some ids ∧ S.inl K (first ++ c.args.toList.map (zJ C gT) ++ captured) (only ids objs) nxt = some (d, objs', nxt'))
                  | true => none
                | false => none
              | none => none
          | none => none
        | _ => none
      | _ => none
    | _ => none
  | _ => none
/-- An element of a slice. -/
def elO (C : Cfg) (gT : Nat → D) (nxt : Nat) (o : Op) (d : D) : Option (Out × Prop) := match o with
  | .indexAddr t x ix => match C.ty t with
    | some ty => match ty.kind with
      | .slice e => match C.ty e with
        | some te => match intOfD (zJ C gT ix) with
          | some i => match zJ C gT x with
            | .sl nl els sz _ => some (⟨.ptr d, [], [], nxt⟩, 0 ≤ i ∧ nl = false ∧ te.size = sz ∧ els[i.toNat]? = some d)
            | _ => none
          | none => none
        | none => none
      | _ => none
    | none => none
  | _ => none
def optEq : Option Nat → Option Nat → Bool
  | none, none => true
  | some a, some b => eqb a b
  | _, _ => false
/-- Is it a store into this object? -/
def storesIn (C : Cfg) (gT : Nat → D) (o : Op) (k : Nat) : Bool := match o with
  | .store _ x _ => match zJ C gT x with
    | .lref k' _ _ _ => eqb k' k
    | _ => false
  | _ => false
def opO (C : Cfg) (S : Sm) (gT : Nat → D) (objs : List (Nat × Ob)) (nxt : Nat) (o : Oper) (ors : List Ora) (acc : List Prop) : Option (Out × List Ora × List Prop) := match ors with
  | .op t r :: ors' => match optEq o.dst t with
    | true => some (r, ors', (evOp C S gT objs nxt o = some r) :: acc)
    | false => match evOp C dead gT objs nxt o with
      | some r' => some (r', .op t r :: ors', acc)
      | none => none
  | .stS k r :: ors' => match storesIn C gT o.op k with
    | true => some (r, ors', (evOp C S gT objs nxt o = some r) :: acc)
    | false => match evOp C dead gT objs nxt o with
      | some r' => some (r', .stS k r :: ors', acc)
      | none => none
  | .pure d :: ors' => match pureO C S gT objs nxt o.op d with
    | some (r, P) => some (r, ors', P :: acc)
    | none => match evOp C dead gT objs nxt o with
      | some r => some (r, .pure d :: ors', acc)
      | none => none
  | .pureS d fl a :: ors' => match pureSO C S gT objs nxt o.op d fl a with
    | some (r, P) => some (r, ors', P :: acc)
    | none => match evOp C dead gT objs nxt o with
      | some r => some (r, .pureS d fl a :: ors', acc)
      | none => none
  | .inl d objs' nxt' :: ors' => match inlO C S gT objs nxt o.op d objs' nxt' with
    | some (r, P) => some (r, ors', P :: acc)
    | none => match evOp C dead gT objs nxt o with
      | some r => some (r, .inl d objs' nxt' :: ors', acc)
      | none => none
  | .inlS ids d objs' nxt' :: ors' => match inlSO C S gT objs nxt o.op ids d objs' nxt' with
    | some (r, P) => some (r, ors', P :: acc)
    | none => match evOp C dead gT objs nxt o with
      | some r => some (r, .inlS ids d objs' nxt' :: ors', acc)
      | none => none
  | .el d :: ors' => match elO C gT nxt o.op d with
    | some (r, P) => some (r, ors', P :: acc)
    | none => match evOp C dead gT objs nxt o with
      | some r => some (r, .el d :: ors', acc)
      | none => none
  | ors' => match evOp C dead gT objs nxt o with
    | some r => some (r, ors', acc)
    | none => none
/-- Is a Bool that it comes to told? -/
def isB (o : Op) : Bool := match o with
  | .binOp _ _ _ _ _ => true
  | .call _ => true
  | .extract _ _ => true
  | .field _ _ _ => true
  | .load _ _ => true
  | .index _ _ _ => true
  | _ => false
def boolOf (d : D) : Option Bool := match d with
  | .val v => match v with
    | .bool t => some t
    | _ => none
  | _ => none
def decO (o : Oper) (d : D) (ors : List Ora) (acc : List Prop) : D × List Ora × List Prop := match ors with
  | .rw t d' :: ors' => match optEq o.dst (some t) with
    | true => (d', ors', (d = d') :: acc)
    | false => (d, .rw t d' :: ors', acc)
  | .dec b :: ors' => match isB o.op with
    | true => match boolOf d with
      | some t => (B b, ors', (t = b) :: acc)
      | none => (d, .dec b :: ors', acc)
    | false => (d, .dec b :: ors', acc)
  | ors' => (d, ors', acc)
def evOpsO (C : Cfg) (S : Sm) (ops : Array Oper) : List Oper → St → List Ora → List Prop → Option (St × List Ora × List Prop)
  | [], st, ors, acc => some (st, ors, acc)
  | o :: l, st, ors, acc => match wantD ops (get st.tmps) o.guard with
    | some true => match opO C S (get st.tmps) st.objs st.nxt o ors acc with
      | some (r, ors1, acc1) => match decO o r.d ors1 acc1 with
        | (d, ors2, acc2) => evOpsO C S ops l ⟨st.n, putT st.n st.tmps o.dst d, applyUpd r.wr st.objs, r.nxt, st.pin⟩ ors2 acc2
      | none => none
    | some false => evOpsO C S ops l ⟨st.n, putT st.n st.tmps o.dst (.tup []), st.objs, st.nxt, st.pin⟩ ors acc
    | none => none
def evOpsTO (C : Cfg) (S : Sm) (ops : Array Oper) : List Oper → St → List Ora → List Prop → Option (St × Trace × List Ora × List Prop)
  | [], st, ors, acc => some (st, [], ors, acc)
  | o :: l, st, ors, acc => match wantD ops (get st.tmps) o.guard with
    | some true => match opO C S (get st.tmps) st.objs st.nxt o ors acc with
      | some (r, ors1, acc1) => match decO o r.d ors1 acc1 with
        | (d, ors2, acc2) => match evOpsTO C S ops l ⟨st.n, putT st.n st.tmps o.dst d, applyUpd r.wr st.objs, r.nxt, st.pin⟩ ors2 acc2 with
          | some (st', tr, ors3, acc3) => some (st', (r.rd, r.wr.map (·.1)) :: tr, ors3, acc3)
          | none => none
      | none => none
    | some false => match evOpsTO C S ops l ⟨st.n, putT st.n st.tmps o.dst (.tup []), st.objs, st.nxt, st.pin⟩ ors acc with
      | some (st', tr, ors3, acc3) => some (st', ([], []) :: tr, ors3, acc3)
      | none => none
    | none => none
def evCodeO (C : Cfg) (S : Sm) (f : FuncId) : Code → St → List Ora → List Prop → Option (Exit × St × List Ora × List Prop)
  | .skip, st, ors, acc => some (.normal, st, ors, acc)
  | .label _, st, ors, acc => some (.normal, st, ors, acc)
  | .ret, st, ors, acc => some (.ret, st, ors, acc)
  | .exit id, st, ors, acc => some (.exit id, st, ors, acc)
  | .region _ ops draw, st, ors, acc => match draw with
    | true => match evOpsTO C S ops ops.toList st ors acc with
      | some (st', tr, ors', acc') => match regOK ops && traceOK ops tr with
        | true => some (.normal, st', ors', acc')
        | false => none
      | none => none
    | false => match evOpsO C S ops ops.toList st ors acc with
      | some (st', ors', acc') => some (.normal, st', ors', acc')
      | none => none
  | .seq a b, st, ors, acc => match evCodeO C S f a st ors acc with
    | some (.normal, st', ors', acc') => evCodeO C S f b st' ors' acc'
    | r => r
  | .cond c a b, st, ors, acc => match boolOf (zJ C (get st.tmps) c) with
    | some true => evCodeO C S f a st ors acc
    | some false => evCodeO C S f b st ors acc
    | none => none
  | .block id a, st, ors, acc => match evCodeO C S f a st ors acc with
    | some (.exit id', st', ors', acc') => match eqb id' id with
      | true => some (.normal, st', ors', acc')
      | false => some (.exit id', st', ors', acc')
    | r => r
  | .loop a, st, ors, acc => match ors with
    | .loop e st' :: ors' => match gc (C.keep f (firstRegion a)) st with
      | some st1 => some (e, st', ors', (S.loop f a st1 = some (e, st')) :: acc)
      | none => none
    | .gloop st1 e st' :: ors' => some (e, st', ors', (S.loop f a st1 = some (e, st')) :: (gc (C.keep f (firstRegion a)) st = some st1) :: acc)
    | _ => none
  | .scope a, st, ors, acc => match evCodeO C S f a st ors acc with
    | some (.goto _, _, _, _) => none
    | r => r
  | .rangeFunc g ps assign body, st, ors, acc => match noRange assign && noRange body with
    | true => match zJ C (get st.tmps) g with
      | .fn g first captured => match g with
        | .func K => match C.fn K with
          | some _ => match ors with
            | .iter objs' nxt' p :: ors' => match exitOf p with
              | some e => some (e, ⟨st.n, st.tmps, objs', nxt', st.pin⟩, ors', (S.iter ⟨f, st.nxt, st.n, st.tmps, ps.toList, assign, body⟩ K (first ++ [.yld st.nxt] ++ captured) st.objs (st.nxt + 1) = some (objs', nxt', p)) :: acc)
              | none => none
            | _ => none
          | none => none
        | _ => none
      | _ => none
    | false => none
  | _, _, _, _ => none

section
variable {C : Cfg} {S : Sm} {gT : Nat → D} {objs : List (Nat × Ob)} {nxt : Nat}
theorem pureO_sound {o : Oper} {d : D} {r : Out} {P : Prop} (h : pureO C S gT objs nxt o.op d = some (r, P)) (hp : P) : evOp C S gT objs nxt o = some r := by
  unfold pureO at h
  unfold evOp
  split at h
  · rename_i c ho
    simp only [ho]
    unfold callD
    split at h
    · rename_i f hf
      simp only [hf]
      split at h
      · rename_i g first captured hg
        simp only [hg]
        split at h
        · rename_i K
          simp only []
          split at h
          · rename_i fn hfn
            unfold zm
            simp only [hfn]
            split at h
            · cases h
            · rename_i hi
              rw [hi]
              simp only [Bool.false_eq_true, if_false]
              unfold zd
              split at h
              · rename_i args' ids hs
                split at h
                · cases h
                  rw [hs]
                  simp only [hp, freeze, ite_self]
                · cases h
                  rw [hs]
                  simp only [hp]
              · cases h
          · cases h
        · cases h
      · cases h
    · cases h
  · cases h
theorem pureSO_sound {o : Oper} {d : D} {fl : Bool} {a : SA} {r : Out} {P : Prop} (h : pureSO C S gT objs nxt o.op d fl a = some (r, P)) (hp : P) : evOp C S gT objs nxt o = some r := by
  unfold pureSO at h
  unfold evOp
  split at h
  · rename_i c ho
    simp only [ho]
    unfold callD
    split at h
    · rename_i f hf
      simp only [hf]
      split at h
      · rename_i g first captured hg
        simp only [hg]
        split at h
        · rename_i K
          simp only []
          split at h
          · rename_i fn hfn
            unfold zm
            simp only [hfn]
            split at h
            · cases h
            · rename_i hi
              rw [hi]
              simp only [Bool.false_eq_true, if_false]
              unfold zd
              split at h
              · rename_i args' ids a' p hs
                cases h
                obtain ⟨h1, h2, h3⟩ := hp
                obtain ⟨h4, _⟩ := snapAllP_sound (fun d a p d' r a' p' h hp => snapP_sound fuelD d a p d' r a' p' h hp) _ _ _ _ _ _ _ hs h2
                rw [h4]
                simp only [h3, h1]
                cases fl <;> rfl
              · cases h
          · cases h
        · cases h
      · cases h
    · cases h
  · cases h
theorem inlO_sound {o : Oper} {d : D} {objs' : List (Nat × Ob)} {nxt' : Nat} {r : Out} {P : Prop} (h : inlO C S gT objs nxt o.op d objs' nxt' = some (r, P)) (hp : P) : evOp C S gT objs nxt o = some r := by
  unfold inlO at h
  unfold evOp
  split at h
  · rename_i c ho
    simp only [ho]
    unfold callD
    split at h
    · rename_i f hf
      simp only [hf]
      split at h
      · rename_i g first captured hg
        simp only [hg]
        split at h
        · rename_i K
          simp only []
          split at h
          · rename_i fn hfn
            unfold zm
            simp only [hfn]
            split at h
            · cases h
            · rename_i hi
              rw [hi]
              simp only [if_true]
              unfold callInl
              split at h
              · rename_i l hl
                rw [hl]
                simp only []
                split at h
                · rename_i ids hids
                  rw [hids]
                  simp only []
                  split at h
                  · rename_i hb
                    rw [hb]
                    split at h
                    · rename_i hlt
                      cases h
                      simp only [cond_true, hp, hlt, cond_false]
                    · cases h
                  · cases h
                · cases h
              · cases h
          · cases h
        · cases h
      · cases h
    · cases h
  · cases h
theorem inlSO_sound {o : Oper} {ids : List Nat} {d : D} {objs' : List (Nat × Ob)} {nxt' : Nat} {r : Out} {P : Prop} (h : inlSO C S gT objs nxt o.op ids d objs' nxt' = some (r, P)) (hp : P) : evOp C S gT objs nxt o = some r := by
  unfold inlSO at h
  unfold evOp
  split at h
  · rename_i c ho
    simp only [ho]
    unfold callD
    split at h
    · rename_i f hf
      simp only [hf]
      split at h
      · rename_i g first captured hg
        simp only [hg]
        split at h
        · rename_i K
          simp only []
          split at h
          · rename_i fn hfn
            unfold zm
            simp only [hfn]
            split at h
            · cases h
            · rename_i hi
              rw [hi]
              simp only [if_true]
              unfold callInl
              split at h
              · rename_i l hl
                rw [hl]
                simp only []
                split at h
                · rename_i hb
                  split at h
                  · rename_i hlt
                    cases h
                    rw [hp.1]
                    simp only [hb, cond_true, hp.2, hlt, cond_false]
                  · cases h
                · cases h
              · cases h
          · cases h
        · cases h
      · cases h
    · cases h
  · cases h
theorem elO_sound {o : Oper} {d : D} {r : Out} {P : Prop} (h : elO C gT nxt o.op d = some (r, P)) (hp : P) : evOp C S gT objs nxt o = some r := by
  unfold elO at h
  unfold evOp
  split at h
  · rename_i t x ix ho
    simp only [ho]
    unfold evIndexAddr
    split at h
    · rename_i ty hty
      simp only [hty]
      split at h
      · rename_i e hk
        split at h
        · rename_i te hte
          split at h
          · rename_i i hi
            simp only [hi]
            split at h
            · rename_i nl els sz cap hx
              cases h
              obtain ⟨h1, h2, h3, h4⟩ := hp
              rw [if_pos h1]
              simp only [hk, hte, hx, ixSlice, h2, h3, Bool.not_false, decide_true, Bool.and_self, if_true, h4, just]
            · cases h
          · cases h
        · cases h
      · cases h
    · cases h
  · cases h
theorem dead_evOp {o : Oper} {r : Out} (h : evOp C dead gT objs nxt o = some r) : evOp C S gT objs nxt o = some r := evOp_mono (dead_le S) h
theorem opO_sound {o : Oper} {ors ors' : List Ora} {acc acc' : List Prop} {r : Out} (h : opO C S gT objs nxt o ors acc = some (r, ors', acc')) (hp : allP acc') : evOp C S gT objs nxt o = some r ∧ allP acc := by
  unfold opO at h
  split at h
  · split at h
    · cases h; exact ⟨hp.1, hp.2⟩
    · split at h
      · rename_i h1; cases h; exact ⟨dead_evOp h1, hp⟩
      · cases h
  · split at h
    · cases h; exact ⟨hp.1, hp.2⟩
    · split at h
      · rename_i h1; cases h; exact ⟨dead_evOp h1, hp⟩
      · cases h
  · split at h
    · rename_i h1; cases h; exact ⟨pureO_sound h1 hp.1, hp.2⟩
    · split at h
      · rename_i h1; cases h; exact ⟨dead_evOp h1, hp⟩
      · cases h
  · split at h
    · rename_i h1; cases h; exact ⟨pureSO_sound h1 hp.1, hp.2⟩
    · split at h
      · rename_i h1; cases h; exact ⟨dead_evOp h1, hp⟩
      · cases h
  · split at h
    · rename_i h1; cases h; exact ⟨inlO_sound h1 hp.1, hp.2⟩
    · split at h
      · rename_i h1; cases h; exact ⟨dead_evOp h1, hp⟩
      · cases h
  · split at h
    · rename_i h1; cases h; exact ⟨inlSO_sound h1 hp.1, hp.2⟩
    · split at h
      · rename_i h1; cases h; exact ⟨dead_evOp h1, hp⟩
      · cases h
  · split at h
    · rename_i h1; cases h; exact ⟨elO_sound h1 hp.1, hp.2⟩
    · split at h
      · rename_i h1; cases h; exact ⟨dead_evOp h1, hp⟩
      · cases h
  · split at h
    · rename_i h1; cases h; exact ⟨dead_evOp h1, hp⟩
    · cases h
theorem boolOf_some {d : D} {t : Bool} (h : boolOf d = some t) : d = .val (.bool t) := by
  unfold boolOf at h
  split at h
  · split at h
    · cases h; rfl
    · cases h
  · cases h
theorem decO_sound {o : Oper} {d d' : D} {ors ors' : List Ora} {acc acc' : List Prop} (h : decO o d ors acc = (d', ors', acc')) (hp : allP acc') : d' = d ∧ allP acc := by
  unfold decO at h
  split at h
  · split at h
    · cases h; exact ⟨hp.1.symm, hp.2⟩
    · cases h; exact ⟨rfl, hp⟩
  · split at h
    · split at h
      · rename_i t ht
        cases h
        rw [boolOf_some ht, hp.1]; exact ⟨rfl, hp.2⟩
      · cases h; exact ⟨rfl, hp⟩
    · cases h; exact ⟨rfl, hp⟩
  · cases h; exact ⟨rfl, hp⟩
theorem evOpsO_sound {ops : Array Oper} : ∀ (l : List Oper) (st st' : St) (ors ors' : List Ora) (acc acc' : List Prop), evOpsO C S ops l st ors acc = some (st', ors', acc') → allP acc' → evOps C S ops l st = some st' ∧ allP acc
  | [], _, _, _, _, _, _, h, hp => by simp only [evOpsO, Option.some.injEq, Prod.mk.injEq] at h; obtain ⟨rfl, rfl, rfl⟩ := h; exact ⟨rfl, hp⟩
  | o :: l, st, st', ors, ors', acc, acc', h, hp => by
    simp only [evOpsO] at h
    simp only [evOps]
    split at h
    · rename_i hw
      split at h
      · rename_i r ors1 acc1 hop
        obtain ⟨d, ors2, acc2, hdec⟩ : ∃ d o2 a2, decO o r.d ors1 acc1 = (d, o2, a2) := ⟨_, _, _, rfl⟩
        rw [hdec] at h
        simp only [] at h
        obtain ⟨h1, h2⟩ := evOpsO_sound l _ _ _ _ _ _ h hp
        obtain ⟨rfl, h3⟩ := decO_sound hdec h2
        obtain ⟨h4, h5⟩ := opO_sound hop h3
        simp only [hw, h4]
        exact ⟨h1, h5⟩
      · cases h
    · rename_i hw
      obtain ⟨h1, h2⟩ := evOpsO_sound l _ _ _ _ _ _ h hp
      simp only [hw]
      exact ⟨h1, h2⟩
    · cases h
theorem evOpsTO_sound {ops : Array Oper} : ∀ (l : List Oper) (st st' : St) (tr : Trace) (ors ors' : List Ora) (acc acc' : List Prop), evOpsTO C S ops l st ors acc = some (st', tr, ors', acc') → allP acc' → evOpsT C S ops l st = some (st', tr) ∧ allP acc
  | [], _, _, _, _, _, _, _, h, hp => by simp only [evOpsTO, Option.some.injEq, Prod.mk.injEq] at h; obtain ⟨rfl, rfl, rfl, rfl⟩ := h; exact ⟨rfl, hp⟩
  | o :: l, st, st', tr, ors, ors', acc, acc', h, hp => by
    simp only [evOpsTO] at h
    simp only [evOpsT]
    split at h
    · rename_i hw
      split at h
      · rename_i r ors1 acc1 hop
        obtain ⟨d, ors2, acc2, hdec⟩ : ∃ d o2 a2, decO o r.d ors1 acc1 = (d, o2, a2) := ⟨_, _, _, rfl⟩
        rw [hdec] at h
        simp only [] at h
        split at h
        · rename_i st1 tr1 ors3 acc3 hrest
          cases h
          obtain ⟨h1, h2⟩ := evOpsTO_sound l _ _ _ _ _ _ _ hrest hp
          obtain ⟨rfl, h3⟩ := decO_sound hdec h2
          obtain ⟨h4, h5⟩ := opO_sound hop h3
          simp only [hw, h4, h1]
          exact ⟨trivial, h5⟩
        · cases h
      · cases h
    · rename_i hw
      split at h
      · rename_i st1 tr1 ors3 acc3 hrest
        cases h
        obtain ⟨h1, h2⟩ := evOpsTO_sound l _ _ _ _ _ _ _ hrest hp
        simp only [hw, h1]
        exact ⟨trivial, h2⟩
      · cases h
    · cases h
theorem evCodeO_sound {f : FuncId} : ∀ (c : Code) (st : St) (e : Exit) (st' : St) (ors ors' : List Ora) (acc acc' : List Prop), evCodeO C S f c st ors acc = some (e, st', ors', acc') → allP acc' → ya C S f c st = some (e, st') ∧ allP acc := by
  intro c
  induction c with
  | region id ops draw =>
    intro st e st' ors ors' acc acc' h hp
    simp only [evCodeO] at h
    simp only [ya]
    split at h
    · split at h
      · rename_i st1 tr ors1 acc1 h1
        split at h
        · rename_i hc
          cases h
          obtain ⟨h2, h3⟩ := evOpsTO_sound _ _ _ _ _ _ _ _ h1 hp
          simp only [if_true, h2, hc]
          exact ⟨trivial, h3⟩
        · cases h
      · cases h
    · split at h
      · rename_i st1 ors1 acc1 h1
        cases h
        obtain ⟨h2, h3⟩ := evOpsO_sound _ _ _ _ _ _ _ h1 hp
        simp only [Bool.false_eq_true, if_false, h2]
        exact ⟨trivial, h3⟩
      · cases h
  | seq x y ihx ihy =>
    intro st e st' ors ors' acc acc' h hp
    simp only [evCodeO] at h
    simp only [ya]
    split at h
    · rename_i st1 ors1 acc1 h1
      obtain ⟨h2, h3⟩ := ihy _ _ _ _ _ _ _ h hp
      obtain ⟨h4, h5⟩ := ihx _ _ _ _ _ _ _ h1 h3
      simp only [h4]
      exact ⟨h2, h5⟩
    · rename_i hn
      obtain ⟨h4, h5⟩ := ihx _ _ _ _ _ _ _ h hp
      rw [h4]
      refine ⟨?_, h5⟩
      split
      · rename_i st1 h6
        cases h6
        exact absurd h (hn _ _ _)
      · rfl
  | cond c x y ihx ihy =>
    intro st e st' ors ors' acc acc' h hp
    simp only [evCodeO] at h
    simp only [ya]
    split at h
    · rename_i ht
      rw [boolOf_some ht]
      exact ihx _ _ _ _ _ _ _ h hp
    · rename_i ht
      rw [boolOf_some ht]
      exact ihy _ _ _ _ _ _ _ h hp
    · cases h
  | block id x ih =>
    intro st e st' ors ors' acc acc' h hp
    simp only [evCodeO] at h
    simp only [ya]
    split at h
    · rename_i id' st1 ors1 acc1 h1
      split at h
      · rename_i hid
        cases h
        obtain ⟨h4, h5⟩ := ih _ _ _ _ _ _ _ h1 hp
        rw [h4]
        exact ⟨by simp only [eqb_iff.1 hid, if_true], h5⟩
      · rename_i hid
        cases h
        obtain ⟨h4, h5⟩ := ih _ _ _ _ _ _ _ h1 hp
        rw [h4]
        exact ⟨by simp only [eqb_false.1 hid, if_false], h5⟩
    · rename_i hn
      obtain ⟨h4, h5⟩ := ih _ _ _ _ _ _ _ h hp
      rw [h4]
      refine ⟨?_, h5⟩
      split
      · rename_i id' st1 h6
        cases h6
        exact absurd h (hn _ _ _ _)
      · rfl
  | loop x ih =>
    intro st e st' ors ors' acc acc' h hp
    simp only [evCodeO] at h
    simp only [ya]
    split at h
    · split at h
      · rename_i st1 hg
        cases h
        rw [hg]
        exact ⟨hp.1, hp.2⟩
      · cases h
    · cases h
      rw [hp.2.1]
      exact ⟨hp.1, hp.2.2⟩
    · cases h
  | scope x ih =>
    intro st e st' ors ors' acc acc' h hp
    simp only [evCodeO] at h
    simp only [ya]
    split at h
    · cases h
    · rename_i hn
      obtain ⟨h4, h5⟩ := ih _ _ _ _ _ _ _ h hp
      rw [h4]
      refine ⟨?_, h5⟩
      split
      · rename_i l st1 h6
        cases h6
        exact absurd h (hn _ _ _ _)
      · rfl
  | rangeFunc g ps x y ihx ihy =>
    intro st e st' ors ors' acc acc' h hp
    simp only [evCodeO] at h
    simp only [ya]
    split at h
    · rename_i hnr
      rw [if_pos hnr]
      split at h
      · rename_i g' first captured hg
        simp only [hg]
        split at h
        · rename_i K
          simp only []
          split at h
          · rename_i fn hfn
            simp only [hfn]
            split at h
            · rename_i objs' nxt' p ors1
              split at h
              · rename_i e1 he
                cases h
                rw [hp.1]
                simp only [he]
                exact ⟨trivial, hp.2⟩
              · cases h
            · cases h
          · cases h
        · cases h
      · cases h
    · cases h
  | skip => intro st e st' ors ors' acc acc' h hp; simp only [evCodeO, Option.some.injEq, Prod.mk.injEq] at h; obtain ⟨rfl, rfl, rfl, rfl⟩ := h; exact ⟨rfl, hp⟩
  | label l => intro st e st' ors ors' acc acc' h hp; simp only [evCodeO, Option.some.injEq, Prod.mk.injEq] at h; obtain ⟨rfl, rfl, rfl, rfl⟩ := h; exact ⟨rfl, hp⟩
  | ret => intro st e st' ors ors' acc acc' h hp; simp only [evCodeO, Option.some.injEq, Prod.mk.injEq] at h; obtain ⟨rfl, rfl, rfl, rfl⟩ := h; exact ⟨rfl, hp⟩
  | exit id => intro st e st' ors ors' acc acc' h hp; simp only [evCodeO, Option.some.injEq, Prod.mk.injEq] at h; obtain ⟨rfl, rfl, rfl, rfl⟩ := h; exact ⟨rfl, hp⟩
  | _ => intro st e st' ors ors' acc acc' h hp; simp only [evCodeO] at h; cases h
end

/-! ### functions, loops -/
/-- A function's end. -/
def endO (C : Cfg) (fn : Func) (e : Exit) (st : St) : Option (D × List (Nat × Ob) × Nat) := match e with
  | .normal => match resAll C st fn.results.toList with | some ds => some (tupOf ds, st.objs, st.nxt) | none => none
  | .ret => match resAll C st fn.results.toList with | some ds => some (tupOf ds, st.objs, st.nxt) | none => none
  | _ => none
def fnO (C : Cfg) (S : Sm) (K : FuncId) (args : List D) (objs : List (Nat × Ob)) (nxt : Nat) (ors : List Ora) : Option (D × List (Nat × Ob) × Nat × List Prop) := match C.fn K with
  | some fn => match fn.body with
    | some c => match evCodeO C S K c ⟨max fn.ntmps args.length, number 0 args, objs, nxt, nxt⟩ ors [] with
      | some (e, st, [], acc) => match endO C fn e st with
        | some (d, objs', nxt') => some (d, objs', nxt', acc)
        | none => none
      | _ => none
    | none => none
  | none => none
def fnPO (C : Cfg) (S : Sm) (K : FuncId) (args : List D) (ors : List Ora) : Option (D × Prop) := match C.ext K with
  | some _ => none
  | none => match fnO C S K args [] 0 ors with
    | some (d, objs, _, acc) => match snap (zD objs) fuelD d with
      | some (d, _) => some (d, allP acc)
      | none => none
    | none => none
def fnSO (C : Cfg) (S : Sm) (K : FuncId) (args : List D) (ors : List Ora) (a : SA) : Option (D × Prop) := match C.ext K with
  | some _ => none
  | none => match fnO C S K args [] 0 ors with
    | some (d, objs, _, acc) => match snapP (zD objs) fuelD d a acc with
      | some (d, _, _, acc) => some (d, allP acc)
      | none => none
    | none => none
def fnIO (C : Cfg) (S : Sm) (K : FuncId) (args : List D) (objs : List (Nat × Ob)) (nxt : Nat) (ors : List Ora) : Option (D × List (Nat × Ob) × Nat × Prop) := match C.xinl K with
  | some _ => none
  | none => match fnO C S K args objs nxt ors with
    | some (d, objs', nxt', acc) => some (d, objs', nxt', allP acc)
    | none => none
section
variable {C : Cfg} {K : FuncId} {args : List D} {objs objs' : List (Nat × Ob)} {nxt nxt' : Nat} {d : D} {acc : List Prop} {P : Prop}
theorem fnO_sound {S : Sm} {ors : List Ora} (h : fnO C S K args objs nxt ors = some (d, objs', nxt', acc)) (hp : allP acc) : runFn C S K args objs nxt = some (d, objs', nxt') := by
  unfold fnO at h
  unfold runFn
  split at h
  · rename_i fn hfn
    split at h
    · rename_i c hc
      simp only [hfn, hc]
      split at h
      · rename_i e st acc1 hev
        split at h
        · rename_i d1 objs1 nxt1 he
          cases h
          obtain ⟨h1, _⟩ := evCodeO_sound _ _ _ _ _ _ _ _ hev hp
          rw [h1]
          cases e <;> first | exact he | (simp only [endO] at he; cases he)
        · cases h
      · cases h
    · cases h
  · cases h
/-- A function on deep values, by one way through it. -/
theorem zk (ors : List Ora) (hp : P) (h : fnPO C (lim C) K args ors = some (d, P)) : (lim C).pure K args = some d := by
  refine pure_of ?_
  unfold fnPO at h
  unfold runPure
  split at h
  · cases h
  · rename_i hx
    simp only [hx]
    split at h
    · rename_i d0 objs0 n0 acc0 h0
      split at h
      · rename_i d1 r1 hs
        cases h
        rw [fnO_sound h0 hp]
        simp only [hs]
      · cases h
    · cases h
/-- The same, rows of the answer being told. -/
theorem po_pureS (ors : List Ora) (a : SA) (hp : P) (h : fnSO C (lim C) K args ors a = some (d, P)) : (lim C).pure K args = some d := by
  refine pure_of ?_
  unfold fnSO at h
  unfold runPure
  split at h
  · cases h
  · rename_i hx
    simp only [hx]
    split at h
    · rename_i d0 objs0 n0 acc0 h0
      split at h
      · rename_i d1 r1 a1 p1 hs
        cases h
        obtain ⟨h1, h2⟩ := snapP_sound _ _ _ _ _ _ _ _ hs hp
        rw [fnO_sound h0 h2]
        simp only [h1]
      · cases h
    · cases h
theorem po_inl (ors : List Ora) (hp : P) (h : fnIO C (lim C) K args objs nxt ors = some (d, objs', nxt', P)) : (lim C).inl K args objs nxt = some (d, objs', nxt') := by
  refine inl_of ?_
  unfold fnIO at h
  unfold runInl
  split at h
  · cases h
  · rename_i hx
    simp only [hx]
    split at h
    · rename_i h0
      cases h
      exact fnO_sound h0 hp
    · cases h
end
/-- A round of a loop that goes on, up to the loop's head. -/
def turnO (C : Cfg) (S : Sm) (f : FuncId) (a : Code) (st : St) (ors : List Ora) : Option (St × Prop) := match evCodeO C S f a st ors [] with
  | some (.normal, st', [], acc) => match gc (C.keep f (firstRegion a)) st' with
    | some st1 => some (st1, allP acc)
    | none => none
  | _ => none
/-- The same, short of the head. -/
def roundO (C : Cfg) (S : Sm) (f : FuncId) (a : Code) (st : St) (ors : List Ora) : Option (St × Prop) := match evCodeO C S f a st ors [] with
  | some (.normal, st', [], acc) => some (st', allP acc)
  | _ => none
def isNormal : Exit → Bool
  | .normal => true
  | _ => false
/-- A round that leaves the loop. -/
def lastO (C : Cfg) (S : Sm) (f : FuncId) (a : Code) (st : St) (ors : List Ora) : Option (Exit × St × Prop) := match evCodeO C S f a st ors [] with
  | some (e, st', [], acc) => match isNormal e with
    | true => none
    | false => some (e, st', allP acc)
  | _ => none
section
variable {C : Cfg} {f : FuncId} {a : Code} {st st1 st' : St} {e : Exit} {q : Exit × St} {P : Prop}
theorem po_turn (ors : List Ora) (hp : P) (hl : (lim C).loop f a st1 = some q) (h : turnO C (lim C) f a st ors = some (st1, P)) : (lim C).loop f a st = some q := by
  refine loop_of ?_
  unfold turnO at h
  unfold runLoop
  split at h
  · rename_i st2 acc2 hev
    split at h
    · rename_i st3 hg
      cases h
      rw [(evCodeO_sound _ _ _ _ _ _ _ _ hev hp).1]
      simp only [hg, hl]
    · cases h
  · cases h
/-- The same, the head's state being shown apart. -/
theorem po_turn' {ks : List Nat} (ors : List Ora) (hp : P) (hk : C.keep f (firstRegion a) = ks) (hg : gc ks st' = some st1) (hl : (lim C).loop f a st1 = some q) (h : roundO C (lim C) f a st ors = some (st', P)) : (lim C).loop f a st = some q := by
  refine loop_of ?_
  unfold roundO at h
  unfold runLoop
  split at h
  · rename_i st2 acc2 hev
    cases h
    rw [(evCodeO_sound _ _ _ _ _ _ _ _ hev hp).1]
    simp only [hk, hg, hl]
  · cases h
theorem gc_of {ks : List Nat} (hk : C.keep f (firstRegion a) = ks) (hg : gc ks st = some st1) : gc (C.keep f (firstRegion a)) st = some st1 := by rw [hk]; exact hg
theorem zS (ors : List Ora) (hp : P) (h : lastO C (lim C) f a st ors = some (e, st', P)) : (lim C).loop f a st = some (e, st') := by
  refine loop_of ?_
  unfold lastO at h
  unfold runLoop
  split at h
  · rename_i e1 st2 acc2 hev
    split at h
    · cases h
    · rename_i hn
      cases h
      rw [(evCodeO_sound _ _ _ _ _ _ _ _ hev hp).1]
      cases e <;> first | rfl | (simp [isNormal] at hn)
  · cases h
theorem po_lr {S : Sm} {α : Type} {L v : α} {q : α → Exit × St} (h : S.loop f a st = some (q L)) (e : L = v) : S.loop f a st = some (q v) := by rw [← e]; exact h
end

/-! ### slices; counters -/
/-- A slice: is it nil; its elements. -/
structure GS (α : Type) where
  nl : Bool
  l : List α
  wf : nl = true → l = []
def GS.nil {α : Type} : GS α := ⟨true, [], (fun _ => rfl)⟩
def GS.some {α : Type} (l : List α) : GS α := ⟨false, l, (fun h => by cases h)⟩
def zsl (b : Bool) (n : Nat) : Nat := match b with | true => 0 | false => n
def GS.D {α : Type} (f : α → VS.D) (k : Nat) (s : GS α) : VS.D := .sl s.nl (s.l.map f) (zsl s.nl k) none
abbrev w64 (n : Int) : Int := IntKind.i64.wrap n
theorem zu {α : Type} (f : α → VS.D) (s : GS α) : I (if s.nl then 0 else (((s.l.map f).length : Nat) : Int)) = I ((s.l.length : Nat) : Int) := by
  cases h : s.nl with
  | true => rw [s.wf h]; simp
  | false => simp
theorem yi {n : Int} (h1 : -9223372036854775808 ≤ n) (h2 : n ≤ 9223372036854775807) : w64 n = n := by
  unfold w64 IntKind.wrap
  have hb : IntKind.i64.bits = 64 := rfl
  simp only [hb]
  first
  | (simp [IntKind.signed]; omega)
  | omega
theorem zX {i : Nat} (h : i < 9223372036854775807) : I (w64 (((i : Nat) : Int) + 1)) = I (((i + 1 : Nat) : Nat) : Int) := by rw [yi (by omega) (by omega)]; rfl
/-- An element in its place. -/
theorem el_at {α : Type} {f : α → VS.D} {s : GS α} {x : α} {rest : List α} {i k : Nat} (h : s.l.drop i = x :: rest) : (0 : Int) ≤ ((i : Nat) : Int) ∧ s.nl = false ∧ k = zsl s.nl k ∧ (s.l.map f)[((i : Nat) : Int).toNat]? = Option.some (f x) := by
  have hx : s.l[i]? = Option.some x := by rw [← List.head?_drop, h]; rfl
  have hn : s.nl = false := by
    cases hn : s.nl with
    | false => rfl
    | true => rw [s.wf hn] at hx; cases hx
  refine ⟨Int.natCast_nonneg _, hn, by rw [hn]; rfl, ?_⟩
  rw [Int.toNat_natCast, List.getElem?_map, hx]; rfl
theorem lt_at {α : Type} {l : List α} {x : α} {rest : List α} {i : Nat} (h : l.drop i = x :: rest) : decide (((i : Nat) : Int) < ((l.length : Nat) : Int)) = true := by
  have hlt : i < l.length := by
    rcases Nat.lt_or_ge i l.length with hh | hh
    · exact hh
    · rw [List.drop_eq_nil_of_le hh] at h; cases h
  exact decide_eq_true (by omega)
theorem lt_no {α : Type} {l : List α} {i : Nat} (h : l.drop i = []) : decide (((i : Nat) : Int) < ((l.length : Nat) : Int)) = false := by
  have := List.drop_eq_nil_iff.1 h
  exact decide_eq_false (by omega)
theorem zA {α : Type} {l : List α} {x : α} {rest : List α} {i : Nat} (h : l.drop i = x :: rest) : l.drop (i + 1) = rest := by rw [← List.drop_drop, h]; rfl
theorem zt {α : Type} {l : List α} {x : α} {rest : List α} {i : Nat} (h : l.drop i = x :: rest) : i < l.length := by
  rcases Nat.lt_or_ge i l.length with hh | hh
  · exact hh
  · rw [List.drop_eq_nil_of_le hh] at h; cases h
end Go.VS

/-
  VS, part V2: rows that grow; what Bools say. (A text of this claim's own; nothing of it is trusted.)
-/
namespace Go.VS
open Go
def imin (a b : Int) : Int := if b < a then b else a
def ye (a b : Int) : Int := if b > a then b else a
theorem imin_eq (a b : Int) : imin a b = min a b := by unfold imin; omega
theorem imax_eq (a b : Int) : ye a b = max a b := by unfold ye; omega
theorem bne_true {a b : Int} (h : (a != b) = true) : a ≠ b := by simpa using h
theorem bne_false {a b : Int} (h : (a != b) = false) : a = b := by simpa using h
theorem nil_eq {α : Type} {l : List α} {i : Nat} (h : l.drop i = []) (hi : i ≤ l.length) : i = l.length := by
  have := List.drop_eq_nil_iff.1 h
  omega
theorem zl : EncOK 1 I := ⟨fun _ _ _ => rfl, fun _ _ => rfl, fun _ _ _ => rfl, fun _ => ⟨rfl, rfl⟩⟩
theorem zr (n : Int) : w64 n = (n + 9223372036854775808) % 18446744073709551616 - 9223372036854775808 := by
  unfold w64 IntKind.wrap
  have hb : IntKind.i64.bits = 64 := rfl
  simp only [hb]
  simp [IntKind.signed]
  omega
theorem ct_at {n : Int} {i k : Nat} (h : (n - ((i : Nat) : Int)).toNat = k + 1) : decide (((i : Nat) : Int) < n) = true := decide_eq_true (by omega)
theorem ct_no {n : Int} {i : Nat} (h : (n - ((i : Nat) : Int)).toNat = 0) : decide (((i : Nat) : Int) < n) = false := decide_eq_false (by omega)
instance {α : Type} : Inhabited (GS α) := ⟨GS.nil⟩
def GS.at {α : Type} [Inhabited α] (s : GS α) (i : Int) : α := s.l.getD i.toNat default
/-- An element at a place. -/
theorem el_in {α : Type} [Inhabited α] {f : α → VS.D} {s : GS α} {k : Nat} {i : Int} (h0 : 0 ≤ i) (h1 : i < ((s.l.length : Nat) : Int)) : (0 : Int) ≤ i ∧ s.nl = false ∧ k = zsl s.nl k ∧ (s.l.map f)[i.toNat]? = Option.some (f (s.at i)) := by
  have hlt : i.toNat < s.l.length := by omega
  have hn : s.nl = false := by
    cases hn : s.nl with
    | false => rfl
    | true => rw [s.wf hn] at hlt; simp at hlt
  refine ⟨h0, hn, by rw [hn]; rfl, ?_⟩
  rw [List.getElem?_map, List.getElem?_eq_getElem hlt, GS.at, List.getD_eq_getElem?_getD, List.getElem?_eq_getElem hlt]; rfl
theorem at_of {α : Type} [Inhabited α] {s : GS α} {x : α} {rest : List α} {i : Nat} (h : s.l.drop i = x :: rest) : s.at ((i : Nat) : Int) = x := by
  have hx : s.l[i]? = Option.some x := by rw [← List.head?_drop, h]; rfl
  rw [GS.at, Int.toNat_natCast, List.getD_eq_getElem?_getD, hx]; rfl
theorem mem_drop {α : Type} {l : List α} {x : α} {rest : List α} {i : Nat} (h : l.drop i = x :: rest) : x ∈ l := List.mem_of_mem_drop (by rw [h]; simp)
theorem nil_eql {C : Cfg} {t : TypeId} {cst nl b : Bool} {els : List D} {sz nxt : Nat} {cap : Option Nat} (h : nl = b) (hk : kindCode C t = 2) : justO nxt (binD C t cst .eql (.sl nl els sz cap) (.sl true [] 0 none)) = some ⟨B b, [], [], nxt⟩ := by
  subst h
  cases nl <;> simp [binD, binNil, nilKind, hk, neqOf, justO]
/-- An element appended to a row. -/
theorem app_row {α : Type} {f : α → D} {te : Ty} {gO : Nat → Option Ob} {nxt o o2 sz : Nat} {fz : Bool} (EO : EncOK sz f) (l : List α) (x : α) (h1 : gO o = some ⟨l.map f, sz, false⟩) (h2 : gO o2 = some ⟨[f x], sz, fz⟩) (h3 : te.size = sz) (h4 : zeroOk te = true) (h5 : 0 < te.size)
    (hb : (l.length + 1) * te.bytes ≤ big ∧ l.length + 1 ≤ big) :
    appendE te gO nxt (.lsl o 0 l.length sz none) (.lsl o2 0 1 sz (some 1)) = some ⟨.lsl nxt 0 (l ++ [x]).length sz none, [(o, none), (nxt, some ⟨(l ++ [x]).map f, sz, false⟩)], [o, o2], nxt + 1⟩ := by
  have e1 : elemsD gO (.lsl o2 0 1 sz (some 1)) = some ([f x], sz, [o2]) := by
    simp [elemsD, h2]
  unfold appendE
  rw [e1]
  simp only [List.isEmpty, Bool.false_eq_true, if_false, h3, decide_true, Bool.true_and, h4, h1]
  have e2 : allOk sz [f x] = true := by simp only [allOk, (EO.ok x).1, (EO.ok x).2, decide_true, Bool.and_self]
  have e3 : allOk sz (List.map f l) = true := EO.allOk l
  have h5' : 0 < sz := h3 ▸ h5
  have e4 : List.take l.length (List.map f l) = List.map f l := by rw [List.take_of_length_le]; simp
  simp only [e2, h5', decide_true, Bool.and_self, if_true, List.length_map, Nat.zero_add, Nat.le_refl, appLsl, hb.1, hb.2, Bool.not_false, List.length_cons, List.length_nil, e4]
  rw [if_neg (by omega)]
  simp [h3, e3]
theorem row_get {α : Type} [Inhabited α] {f : α → VS.D} {l : List α} {n : Nat} (h : n < l.length) : (l.map f)[n]? = Option.some (f (l.getD n default)) := by
  rw [List.getElem?_map, List.getElem?_eq_getElem h, List.getD_eq_getElem?_getD, List.getElem?_eq_getElem h]; rfl
theorem row_at {α : Type} {f : α → VS.D} {l : List α} {x : α} {rest : List α} {i : Nat} (h : l.drop i = x :: rest) : (l.map f)[i]? = Option.some (f x) := by
  have hx : l[i]? = Option.some x := by rw [← List.head?_drop, h]; rfl
  rw [List.getElem?_map, hx]; rfl
theorem lt_at' {α : Type} {l : List α} {x : α} {rest : List α} {i n : Nat} (h : l.drop i = x :: rest) (e : l.length = n) : decide (((i : Nat) : Int) < ((n : Nat) : Int)) = true := by rw [← e]; exact lt_at h
theorem lt_no' {α : Type} {l : List α} {i n : Nat} (h : l.drop i = []) (e : l.length = n) : decide (((i : Nat) : Int) < ((n : Nat) : Int)) = false := by rw [← e]; exact lt_no h
theorem GS.some_l {α : Type} {l : List α} : (GS.some l).l = l := rfl
theorem row_set {α : Type} {f : α → VS.D} {l : List α} {n : Nat} {y : α} : (l.map f).set n (f y) = (l.set n y).map f := by
  rw [List.map_set]
theorem idx_row {C : Cfg} {nxt : Nat} {t : TypeId} {ty te : Ty} {e : TypeId} {o len sz : Nat} {cap : Option Nat} {i : Int} (h1 : C.ty t = Option.some ty) (h2 : ty.kind = .slice e) (h3 : C.ty e = Option.some te) (h4 : te.size = sz) (h5 : 0 ≤ i) (h6 : i < ((len : Nat) : Int)) :
    evIndexAddr C nxt t (.lsl o 0 len sz cap) (I i) = Option.some ⟨.lref o i.toNat sz 0, [], [], nxt⟩ := by
  have hlt : i.toNat < len := by omega
  simp [evIndexAddr, h1, intOfD, h5, h2, h3, ixSlice, h4, hlt, just]
theorem load_row {C : Cfg} {objs : List (Nat × Ob)} {nxt : Nat} {t : TypeId} {ty : Ty} {o n sz sub : Nat} {ob : Ob} {e d : VS.D} (h1 : C.ty t = Option.some ty) (h2 : zD objs o = Option.some ob) (h3 : ob.sz = sz) (h4 : ob.els[n]? = Option.some e) (h5 : partD ty sub e = Option.some d) :
    evLoad C objs nxt t (.lref o n sz sub) = Option.some ⟨d, [], [o], nxt⟩ := by
  simp [evLoad, h1, elAt, h2, h3, eqb_iff.2, h4, h5]
theorem store_row {C : Cfg} {objs : List (Nat × Ob)} {nxt : Nat} {t : TypeId} {ty : Ty} {o n sz sub : Nat} {els els' : List VS.D} {e e' v : VS.D} (h1 : C.ty t = Option.some ty) (h2 : zD objs o = Option.some ⟨els, sz, false⟩) (h4 : els[n]? = Option.some e) (h5 : v.okCells = true) (h6 : v.cells.length = ty.size) (h7 : e.okCells = true)
    (h8 : setPart sub e v = Option.some e') (h9 : els.set n e' = els') : evStore C objs nxt t (.lref o n sz sub) v = Option.some ⟨.tup [], [(o, Option.some ⟨els', sz, false⟩)], [o], nxt⟩ := by
  simp [evStore, h1, elAt, h2, eqb_iff.2, h4, h5, h6, h7, h8, h9]
/-- All of a deep slice behind an empty row. -/
theorem app_deep {α : Type} {f : α → VS.D} {te : Ty} {gO : Nat → Option Ob} {nxt o sz : Nat} {fz : Bool} (EO : EncOK sz f) (s : GS α) (hne : s.l ≠ []) (hn : s.nl = false) (h1 : gO o = Option.some ⟨[], sz, fz⟩) (h3 : te.size = sz) (h4 : zeroOk te = true) (h5 : 0 < te.size) (hb : s.l.length * te.bytes ≤ big ∧ s.l.length ≤ big) :
    appendE te gO nxt (.lsl o 0 0 sz (Option.some 0)) (GS.D f sz s) = Option.some ⟨.lsl nxt 0 s.l.length sz none, [(nxt, Option.some ⟨s.l.map f, sz, false⟩)], [o], nxt + 1⟩ := by
  unfold GS.D
  rw [hn]
  have e3 : allOk sz (List.map f s.l) = true := EO.allOk s.l
  have h5' : 0 < sz := h3 ▸ h5
  have hpos : 0 < s.l.length := List.length_pos_iff.2 hne
  have hemp : (List.map f s.l).isEmpty = false := by
    cases hl : s.l with
    | nil => exact absurd hl hne
    | cons a b => rfl
  simp [appendE, elemsD, zsl, hemp, h3, e3, h4, h5', h1, appLsl, hpos, allOk, newRow, hb.1, hb.2, newOb]
/-- A copy of a row. -/
theorem snap_row {α : Type} {f : α → D} {gO : Nat → Option Ob} {o len sz : Nat} {cap : Option Nat} {fz : Bool} (EO : EncOK sz f) (l : List α) (h1 : gO o = Option.some ⟨l.map f, sz, fz⟩) (h2 : l.length = len) : ∀ n, snap gO (n + 3) (.lsl o 0 len sz cap) = Option.some (.sl false (l.map f) sz none, [o]) := by
  intro n
  subst h2
  have e4 : List.take l.length (List.map f l) = List.map f l := by rw [List.take_of_length_le]; simp
  rw [snap]
  simp only [h1, decide_true, Bool.true_and, Nat.zero_add, List.length_map, Nat.le_refl, if_true, List.drop_zero, e4, EO.snapAll]
theorem ne_of_len {α : Type} {l : List α} (h : 0 < l.length) : l ≠ [] := List.length_pos_iff.1 h
theorem nonnil {α : Type} {s : GS α} (h : s.l ≠ []) : s.nl = false := by
  cases hn : s.nl with
  | false => rfl
  | true => exact absurd (s.wf hn) h
end Go.VS

/-
  VS, part V3: ranges over functions, what is met being told beforehand. (A text of this claim's own; nothing of it is trusted.)
-/
namespace Go.VS
open Go

def evRoundO (C : Cfg) (S : Sm) (R : Rnd) (args : List D) (objs : List (Nat × Ob)) (nxt : Nat) (ors : List Ora) (acc : List Prop) : Option (Exit × St × List Ora × List Prop) := match eqb R.ps.length args.length with
  | true => match evCodeO C S R.f R.assign ⟨R.n, putPs R.n R.ps args R.tmps, objs, nxt, nxt⟩ ors acc with
    | some (.normal, st, ors1, acc1) => evCodeO C S R.f R.body st ors1 acc1
    | _ => none
  | false => none
def evOpsYO (C : Cfg) (S : Sm) (R : Rnd) (ops : Array Oper) : List Oper → St → List Ora → List Prop → Option (St × Option Code × List Ora × List Prop)
  | [], st, ors, acc => some (st, none, ors, acc)
  | o :: l, st, ors, acc => match wantD ops (get st.tmps) o.guard with
    | some true => match yldOf C (get st.tmps) R.y o with
      | some args => match evRoundO C S R (args.map (zJ C (get st.tmps))) st.objs st.nxt ors acc with
        | some (e, s, ors1, acc1) => match e with
          | .normal => evOpsYO C S R ops l ⟨st.n, putT st.n st.tmps o.dst (B true), s.objs, s.nxt, st.pin⟩ ors1 acc1
          | .ret => match evOpsO C S ops l ⟨st.n, putT st.n st.tmps o.dst (B false), s.objs, s.nxt, st.pin⟩ ors1 acc1 with
            | some (st', ors2, acc2) => some (st', some Code.ret, ors2, acc2)
            | none => none
          | .exit id => match evOpsO C S ops l ⟨st.n, putT st.n st.tmps o.dst (B false), s.objs, s.nxt, st.pin⟩ ors1 acc1 with
            | some (st', ors2, acc2) => some (st', some (Code.exit id), ors2, acc2)
            | none => none
          | _ => none
        | none => none
      | none => match opO C S (get st.tmps) st.objs st.nxt o ors acc with
        | some (r, ors1, acc1) => match decO o r.d ors1 acc1 with
          | (d, ors2, acc2) => evOpsYO C S R ops l ⟨st.n, putT st.n st.tmps o.dst d, applyUpd r.wr st.objs, r.nxt, st.pin⟩ ors2 acc2
        | none => none
    | some false => evOpsYO C S R ops l ⟨st.n, putT st.n st.tmps o.dst (.tup []), st.objs, st.nxt, st.pin⟩ ors acc
    | none => none
def evCodeYO (C : Cfg) (S : Sm) (R : Rnd) (f : FuncId) : Code → St → List Ora → List Prop → Option (Exit × St × Option Code × List Ora × List Prop)
  | .skip, st, ors, acc => some (.normal, st, none, ors, acc)
  | .label _, st, ors, acc => some (.normal, st, none, ors, acc)
  | .ret, st, ors, acc => some (.ret, st, none, ors, acc)
  | .exit id, st, ors, acc => some (.exit id, st, none, ors, acc)
  | .region id ops draw, st, ors, acc => match draw with
    | true => match evCodeO C S f (.region id ops true) st ors acc with
      | some (e, st', ors', acc') => some (e, st', none, ors', acc')
      | none => none
    | false => match evOpsYO C S R ops ops.toList st ors acc with
      | some (st', p, ors', acc') => some (.normal, st', p, ors', acc')
      | none => none
  | .seq a b, st, ors, acc => match evCodeYO C S R f a st ors acc with
    | some (e, st', p, ors', acc') => match e with
      | .normal => match p with
        | none => evCodeYO C S R f b st' ors' acc'
        | some p => match evCodeO C S f b st' ors' acc' with
          | some (e, st2, ors2, acc2) => some (e, st2, some p, ors2, acc2)
          | none => none
      | e => some (e, st', p, ors', acc')
    | none => none
  | .cond c a b, st, ors, acc => match boolOf (zJ C (get st.tmps) c) with
    | some true => evCodeYO C S R f a st ors acc
    | some false => evCodeYO C S R f b st ors acc
    | none => none
  | .block id a, st, ors, acc => match evCodeYO C S R f a st ors acc with
    | some (.exit id', st', p, ors', acc') => match eqb id' id with
      | true => some (.normal, st', p, ors', acc')
      | false => some (.exit id', st', p, ors', acc')
    | r => r
  | .loop a, st, ors, acc => match ors with
    | .loopY e st' p :: ors' => match gc (C.keep f (firstRegion a)) st with
      | some st1 => some (e, st', p, ors', (S.loopY R f a st1 = some (e, st', p)) :: acc)
      | none => none
    | .gloopY st1 e st' p :: ors' => some (e, st', p, ors', (S.loopY R f a st1 = some (e, st', p)) :: (gc (C.keep f (firstRegion a)) st = some st1) :: acc)
    | _ => none
  | .scope a, st, ors, acc => match evCodeYO C S R f a st ors acc with
    | some (.goto _, _, _, _, _) => none
    | r => r
  | _, _, _, _ => none

section
variable {C : Cfg} {S : Sm} {R : Rnd}
theorem evRoundO_sound {args : List D} {objs : List (Nat × Ob)} {nxt : Nat} {ors ors' : List Ora} {acc acc' : List Prop} {e : Exit} {st : St} (h : evRoundO C S R args objs nxt ors acc = some (e, st, ors', acc')) (hp : allP acc') : evRound C S R args objs nxt = some (e, st) ∧ allP acc := by
  unfold evRoundO at h
  unfold evRound
  split at h
  · rename_i hl
    rw [if_pos hl]
    split at h
    · rename_i st1 ors1 acc1 h1
      obtain ⟨h2, h3⟩ := evCodeO_sound _ _ _ _ _ _ _ _ h hp
      obtain ⟨h4, h5⟩ := evCodeO_sound _ _ _ _ _ _ _ _ h1 h3
      rw [h4]
      exact ⟨h2, h5⟩
    · cases h
  · cases h
theorem evOpsYO_sound {ops : Array Oper} : ∀ (l : List Oper) (st st' : St) (p : Option Code) (ors ors' : List Ora) (acc acc' : List Prop), evOpsYO C S R ops l st ors acc = some (st', p, ors', acc') → allP acc' → evOpsY C S R ops l st = some (st', p) ∧ allP acc
  | [], _, _, _, _, _, _, _, h, hp => by simp only [evOpsYO, Option.some.injEq, Prod.mk.injEq] at h; obtain ⟨rfl, rfl, rfl, rfl⟩ := h; exact ⟨rfl, hp⟩
  | o :: l, st, st', p, ors, ors', acc, acc', h, hp => by
    simp only [evOpsYO] at h
    simp only [evOpsY]
    split at h
    · rename_i hw
      simp only [hw]
      split at h
      · rename_i args hy
        simp only [hy]
        split at h
        · rename_i e s ors1 acc1 hr
          split at h
          · obtain ⟨h1, h2⟩ := evOpsYO_sound l _ _ _ _ _ _ _ h hp
            obtain ⟨h3, h4⟩ := evRoundO_sound hr h2
            rw [h3]
            exact ⟨h1, h4⟩
          · split at h
            · rename_i st2 ors2 acc2 h1
              cases h
              obtain ⟨h5, h2⟩ := evOpsO_sound _ _ _ _ _ _ _ h1 hp
              obtain ⟨h3, h4⟩ := evRoundO_sound hr h2
              rw [h3]
              simp only [h5]
              exact ⟨trivial, h4⟩
            · cases h
          · split at h
            · rename_i st2 ors2 acc2 h1
              cases h
              obtain ⟨h5, h2⟩ := evOpsO_sound _ _ _ _ _ _ _ h1 hp
              obtain ⟨h3, h4⟩ := evRoundO_sound hr h2
              rw [h3]
              simp only [h5]
              exact ⟨trivial, h4⟩
            · cases h
          · cases h
        · cases h
      · rename_i hy
        simp only [hy]
        split at h
        · rename_i r ors1 acc1 hop
          obtain ⟨d, ors2, acc2, hdec⟩ : ∃ d o2 a2, decO o r.d ors1 acc1 = (d, o2, a2) := ⟨_, _, _, rfl⟩
          rw [hdec] at h
          simp only [] at h
          obtain ⟨h1, h2⟩ := evOpsYO_sound l _ _ _ _ _ _ _ h hp
          obtain ⟨rfl, h3⟩ := decO_sound hdec h2
          obtain ⟨h4, h5⟩ := opO_sound hop h3
          simp only [h4]
          exact ⟨h1, h5⟩
        · cases h
    · rename_i hw
      obtain ⟨h1, h2⟩ := evOpsYO_sound l _ _ _ _ _ _ _ h hp
      simp only [hw]
      exact ⟨h1, h2⟩
    · cases h
theorem evCodeYO_sound {f : FuncId} : ∀ (c : Code) (st : St) (e : Exit) (st' : St) (p : Option Code) (ors ors' : List Ora) (acc acc' : List Prop), evCodeYO C S R f c st ors acc = some (e, st', p, ors', acc') → allP acc' → y7 C S R f c st = some (e, st', p) ∧ allP acc := by
  intro c
  induction c with
  | region id ops draw =>
    intro st e st' p ors ors' acc acc' h hp
    simp only [evCodeYO] at h
    simp only [y7]
    split at h
    · split at h
      · rename_i e1 st1 ors1 acc1 h1
        cases h
        obtain ⟨h2, h3⟩ := evCodeO_sound _ _ _ _ _ _ _ _ h1 hp
        simp only [if_true, h2, withP]
        exact ⟨trivial, h3⟩
      · cases h
    · split at h
      · rename_i st1 p1 ors1 acc1 h1
        cases h
        obtain ⟨h2, h3⟩ := evOpsYO_sound _ _ _ _ _ _ _ _ h1 hp
        simp only [Bool.false_eq_true, if_false, h2]
        exact ⟨trivial, h3⟩
      · cases h
  | seq x y ihx ihy =>
    intro st e st' p ors ors' acc acc' h hp
    simp only [evCodeYO] at h
    simp only [y7]
    split at h
    · rename_i e1 st1 p1 ors1 acc1 h1
      split at h
      · split at h
        · obtain ⟨h2, h3⟩ := ihy _ _ _ _ _ _ _ _ h hp
          obtain ⟨h4, h5⟩ := ihx _ _ _ _ _ _ _ _ h1 h3
          simp only [h4]
          exact ⟨h2, h5⟩
        · rename_i p2
          split at h
          · rename_i e2 st2 ors2 acc2 h2
            cases h
            obtain ⟨h6, h3⟩ := evCodeO_sound _ _ _ _ _ _ _ _ h2 hp
            obtain ⟨h4, h5⟩ := ihx _ _ _ _ _ _ _ _ h1 h3
            simp only [h4, h6, withP]
            exact ⟨trivial, h5⟩
          · cases h
      · rename_i hn
        cases h
        obtain ⟨h4, h5⟩ := ihx _ _ _ _ _ _ _ _ h1 hp
        rw [h4]
        refine ⟨?_, h5⟩
        split
        · rename_i h6; cases h6; exact absurd rfl hn
        · rename_i h6; cases h6; exact absurd rfl hn
        · rfl
    · cases h
  | cond c x y ihx ihy =>
    intro st e st' p ors ors' acc acc' h hp
    simp only [evCodeYO] at h
    simp only [y7]
    split at h
    · rename_i ht
      rw [boolOf_some ht]
      exact ihx _ _ _ _ _ _ _ _ h hp
    · rename_i ht
      rw [boolOf_some ht]
      exact ihy _ _ _ _ _ _ _ _ h hp
    · cases h
  | block id x ih =>
    intro st e st' p ors ors' acc acc' h hp
    simp only [evCodeYO] at h
    simp only [y7]
    split at h
    · rename_i id' st1 p1 ors1 acc1 h1
      split at h
      · rename_i hid
        cases h
        obtain ⟨h4, h5⟩ := ih _ _ _ _ _ _ _ _ h1 hp
        rw [h4]
        exact ⟨by simp only [eqb_iff.1 hid, if_true], h5⟩
      · rename_i hid
        cases h
        obtain ⟨h4, h5⟩ := ih _ _ _ _ _ _ _ _ h1 hp
        rw [h4]
        exact ⟨by simp only [eqb_false.1 hid, if_false], h5⟩
    · rename_i hn
      obtain ⟨h4, h5⟩ := ih _ _ _ _ _ _ _ _ h hp
      rw [h4]
      refine ⟨?_, h5⟩
      split
      · rename_i id' st1 p1 h6
        cases h6
        exact absurd h (hn _ _ _ _ _)
      · rfl
  | loop x ih =>
    intro st e st' p ors ors' acc acc' h hp
    simp only [evCodeYO] at h
    simp only [y7]
    split at h
    · split at h
      · rename_i st1 hg
        cases h
        rw [hg]
        exact ⟨hp.1, hp.2⟩
      · cases h
    · cases h
      rw [hp.2.1]
      exact ⟨hp.1, hp.2.2⟩
    · cases h
  | scope x ih =>
    intro st e st' p ors ors' acc acc' h hp
    simp only [evCodeYO] at h
    simp only [y7]
    split at h
    · cases h
    · rename_i hn
      obtain ⟨h4, h5⟩ := ih _ _ _ _ _ _ _ _ h hp
      rw [h4]
      refine ⟨?_, h5⟩
      split
      · rename_i l st1 p1 h6
        cases h6
        exact absurd h (hn _ _ _ _ _)
      · rfl
  | skip => intro st e st' p ors ors' acc acc' h hp; simp only [evCodeYO, Option.some.injEq, Prod.mk.injEq] at h; obtain ⟨rfl, rfl, rfl, rfl, rfl⟩ := h; exact ⟨rfl, hp⟩
  | label l => intro st e st' p ors ors' acc acc' h hp; simp only [evCodeYO, Option.some.injEq, Prod.mk.injEq] at h; obtain ⟨rfl, rfl, rfl, rfl, rfl⟩ := h; exact ⟨rfl, hp⟩
  | ret => intro st e st' p ors ors' acc acc' h hp; simp only [evCodeYO, Option.some.injEq, Prod.mk.injEq] at h; obtain ⟨rfl, rfl, rfl, rfl, rfl⟩ := h; exact ⟨rfl, hp⟩
  | exit id => intro st e st' p ors ors' acc acc' h hp; simp only [evCodeYO, Option.some.injEq, Prod.mk.injEq] at h; obtain ⟨rfl, rfl, rfl, rfl, rfl⟩ := h; exact ⟨rfl, hp⟩
  | _ => intro st e st' p ors ors' acc acc' h hp; simp only [evCodeYO] at h; cases h
end

theorem shl_op {C : Cfg} {t : TypeId} {cst : Bool} {nxt : Nat} {a b : Int} (h : 0 ≤ b) : justO nxt (binD C t cst .shl (I a) (I b)) = Option.some ⟨I (w64 (a * 2 ^ (min b.toNat 64))), [], [], nxt⟩ := by
  have hb : IntKind.i64.bits = 64 := rfl
  simp [binD, binVal, binInt, shiftOp, justO, hb, show ¬ b < 0 by omega]
theorem shr_op {C : Cfg} {t : TypeId} {cst : Bool} {nxt : Nat} {a b : Int} (h : 0 ≤ b) : justO nxt (binD C t cst .shr (I a) (I b)) = Option.some ⟨I (a.fdiv (2 ^ (min b.toNat 64))), [], [], nxt⟩ := by
  have hb : IntKind.i64.bits = 64 := rfl
  simp [binD, binVal, binInt, shiftOp, justO, hb, show ¬ b < 0 by omega]
/-! ### a function that is ranged over; its loops -/
def iterO (C : Cfg) (S : Sm) (R : Rnd) (K : FuncId) (args : List D) (objs : List (Nat × Ob)) (nxt : Nat) (ors : List Ora) : Option (List (Nat × Ob) × Nat × Option Code × Prop) := match C.fn K with
  | some fn => match fn.body with
    | some c => match evCodeYO C S R K c ⟨max fn.ntmps args.length, number 0 args, objs, nxt, nxt⟩ ors [] with
      | some (e, st, p, [], acc) => match e with
        | .normal => match finY C fn st p with
          | some (o, n, p) => some (o, n, p, allP acc)
          | none => none
        | .ret => match finY C fn st p with
          | some (o, n, p) => some (o, n, p, allP acc)
          | none => none
        | _ => none
      | _ => none
    | none => none
  | none => none
section
variable {C : Cfg} {R : Rnd} {K : FuncId} {args : List D} {objs objs' : List (Nat × Ob)} {nxt nxt' : Nat} {p : Option Code} {P : Prop}
theorem po_iter (ors : List Ora) (hp : P) (h : iterO C (lim C) R K args objs nxt ors = some (objs', nxt', p, P)) : (lim C).iter R K args objs nxt = some (objs', nxt', p) := by
  refine iter_of ?_
  unfold iterO at h
  unfold runIter
  split at h
  · rename_i fn hfn
    simp only [hfn]
    split at h
    · rename_i c hc
      simp only [hc]
      split at h
      · rename_i e st p1 acc1 hev
        split at h
        · split at h
          · rename_i hfin
            cases h
            rw [(evCodeYO_sound _ _ _ _ _ _ _ _ _ hev hp).1]
            exact hfin
          · cases h
        · split at h
          · rename_i hfin
            cases h
            rw [(evCodeYO_sound _ _ _ _ _ _ _ _ _ hev hp).1]
            exact hfin
          · cases h
        · cases h
      · cases h
    · cases h
  · cases h
end
/-- A round of a loop that goes on, up to the loop's head; short of the head. -/
def turnYO (C : Cfg) (S : Sm) (R : Rnd) (f : FuncId) (a : Code) (st : St) (ors : List Ora) : Option (St × Prop) := match evCodeYO C S R f a st ors [] with
  | some (.normal, st', none, [], acc) => match gc (C.keep f (firstRegion a)) st' with
    | some st1 => some (st1, allP acc)
    | none => none
  | _ => none
def roundYO (C : Cfg) (S : Sm) (R : Rnd) (f : FuncId) (a : Code) (st : St) (ors : List Ora) : Option (St × Prop) := match evCodeYO C S R f a st ors [] with
  | some (.normal, st', none, [], acc) => some (st', allP acc)
  | _ => none
/-- A round that leaves the loop. -/
def lastYO (C : Cfg) (S : Sm) (R : Rnd) (f : FuncId) (a : Code) (st : St) (ors : List Ora) : Option (Exit × St × Option Code × Prop) := match evCodeYO C S R f a st ors [] with
  | some (e, st', p, [], acc) => match isNormal e with
    | true => none
    | false => some (e, st', p, allP acc)
  | _ => none
section
variable {C : Cfg} {R : Rnd} {f : FuncId} {a : Code} {st st1 st' : St} {e : Exit} {p : Option Code} {q : Exit × St × Option Code} {P : Prop}
theorem po_turnY (ors : List Ora) (hp : P) (hl : (lim C).loopY R f a st1 = some q) (h : turnYO C (lim C) R f a st ors = some (st1, P)) : (lim C).loopY R f a st = some q := by
  refine loopY_of ?_
  unfold turnYO at h
  unfold runLoopY
  split at h
  · rename_i st2 acc2 hev
    split at h
    · rename_i st3 hg
      cases h
      rw [(evCodeYO_sound _ _ _ _ _ _ _ _ _ hev hp).1]
      simp only [hg, hl]
    · cases h
  · cases h
theorem po_turnY' {ks : List Nat} (ors : List Ora) (hp : P) (hk : C.keep f (firstRegion a) = ks) (hg : gc ks st' = some st1) (hl : (lim C).loopY R f a st1 = some q) (h : roundYO C (lim C) R f a st ors = some (st', P)) : (lim C).loopY R f a st = some q := by
  refine loopY_of ?_
  unfold roundYO at h
  unfold runLoopY
  split at h
  · rename_i st2 acc2 hev
    cases h
    rw [(evCodeYO_sound _ _ _ _ _ _ _ _ _ hev hp).1]
    simp only [hk, hg, hl]
  · cases h
theorem po_lastY (ors : List Ora) (hp : P) (h : lastYO C (lim C) R f a st ors = some (e, st', p, P)) : (lim C).loopY R f a st = some (e, st', p) := by
  refine loopY_of ?_
  unfold lastYO at h
  unfold runLoopY
  split at h
  · rename_i e1 st2 p2 acc2 hev
    split at h
    · cases h
    · rename_i hn
      cases h
      rw [(evCodeYO_sound _ _ _ _ _ _ _ _ _ hev hp).1]
      cases e <;> first | rfl | (simp [isNormal] at hn)
  · cases h
theorem po_lrY {S : Sm} {α : Type} {L v : α} {q : α → Exit × St × Option Code} (h : S.loopY R f a st = some (q L)) (e : L = v) : S.loopY R f a st = some (q v) := by rw [← e]; exact h
end
end Go.VS

/-
  VS, part V4: a way through code, in pieces. (A text of this claim's own; nothing of it is trusted.)
-/
namespace Go.VS
open Go
section
variable {C : Cfg} {K : FuncId} {args : List D} {c b : Code} {st st' : St} {d : D} {P : Prop}
end
end Go.VS

/-
  VS, part V5: bits; what all of some numbers fulfil. (A text of this claim's own; nothing of it is trusted.)
-/
namespace Go.VS
open Go
theorem and_one {x : Nat} (h : x < 18446744073709551616) : (BitVec.ofInt 64 ((x : Nat) : Int) &&& BitVec.ofInt 64 1).toNat = x % 2 := by
  rw [BitVec.toNat_and]
  have h1 : (BitVec.ofInt 64 ((x : Nat) : Int)).toNat = x := by
    rw [BitVec.toNat_ofInt]
    omega
  have h2 : (BitVec.ofInt 64 1).toNat = 1 := by rfl
  rw [h1, h2, Nat.and_one_is_mod]
theorem bt_eq {m k : Nat} (hm : m < 4611686018427387904) (hk : k ≤ 64) : ((w64 ((BitVec.ofInt 64 ((((m : Nat) : Int)).fdiv (2 ^ (min (((k : Nat) : Int)).toNat 64))) &&& BitVec.ofInt 64 1).toNat : Int)) == 1) = m.testBit k := by
  have e1 : (((m : Nat) : Int)).fdiv (2 ^ (min (((k : Nat) : Int)).toNat 64)) = (((m / 2 ^ k : Nat)) : Int) := by
    rw [Int.toNat_natCast, Nat.min_eq_left hk, show (2 : Int) ^ k = ((2 ^ k : Nat) : Int) by simp, Int.fdiv_eq_ediv_of_nonneg _ (Int.natCast_nonneg _), Int.natCast_ediv]
  have e2 : m / 2 ^ k < 18446744073709551616 := Nat.lt_of_le_of_lt (Nat.div_le_self _ _) (by omega)
  have e3 := and_one e2
  rw [e1, e3, yi (by omega) (by omega), Nat.testBit_eq_decide_div_mod_eq]
  rcases Nat.mod_two_eq_zero_or_one (m / 2 ^ k) with h | h <;> rw [h] <;> rfl
theorem shl_one {n : Int} (h0 : 0 ≤ n) (h1 : n ≤ 12) : w64 (1 * 2 ^ (min n.toNat 64)) = ((2 ^ n.toNat : Nat) : Int) := by
  have : n = 0 ∨ n = 1 ∨ n = 2 ∨ n = 3 ∨ n = 4 ∨ n = 5 ∨ n = 6 ∨ n = 7 ∨ n = 8 ∨ n = 9 ∨ n = 10 ∨ n = 11 ∨ n = 12 := by omega
  rcases this with rfl | rfl | rfl | rfl | rfl | rfl | rfl | rfl | rfl | rfl | rfl | rfl | rfl <;> rfl
theorem no_bits {m n : Nat} (h : m < 2 ^ n) (hb : ∀ k, k < n → m.testBit k = false) : m = 0 := by
  refine Nat.eq_of_testBit_eq fun k => ?_
  rw [Nat.zero_testBit]
  by_cases hk : k < n
  · exact hb k hk
  · exact Nat.testBit_lt_two_pow (Nat.lt_of_lt_of_le h (Nat.pow_le_pow_right (by omega) (by omega)))
theorem allb_app {P : Int → Prop} {l : List Int} {x : Int} (h : ∀ i ∈ l, P i) (hx : P x) : ∀ i ∈ l ++ [x], P i := by
  intro i hi
  rcases List.mem_append.1 hi with hi | hi
  · exact h i hi
  · simp only [List.mem_singleton] at hi
    subst hi; exact hx
theorem allb_one {P : Int → Prop} {x : Int} (hx : P x) : ∀ i ∈ [x], P i := by
  intro i hi
  simp only [List.mem_singleton] at hi
  subst hi; exact hx
theorem GS.nil_len {α : Type} : (GS.nil : GS α).l.length = 0 := rfl
theorem cond_t {α : Sort _} {b : Bool} {x y : α} (h : b = true) : cond b x y = x := by rw [h]; rfl
theorem cond_f {α : Sort _} {b : Bool} {x y : α} (h : b = false) : cond b x y = y := by rw [h]; rfl
theorem ids_yld {f k : Nat} : idsD (f + 1) (.yld k) = Option.some [k] := rfl
theorem ren_yld {ρ : Nat → Option Nat} {f k : Nat} : renD ρ (f + 1) (.yld k) = (match ρ k with | Option.some o => .yld o | none => .unk) := rfl
attribute [go_sem] ids_yld ren_yld
theorem allb_nil {P : Int → Prop} : ∀ i ∈ (GS.nil : GS Int).l, P i := fun i hi => (by cases hi)
end Go.VS

namespace Go.VS.F0
open Go Go.Proofs
set_option maxHeartbeats 0
set_option linter.unusedSimpArgs false
set_option linter.unusedVariables false
structure Arr2_Int where
  x0 : Int
  x1 : Int
instance : Inhabited Arr2_Int := ⟨⟨0, 0⟩⟩
def Arr2_Int.D (x : Arr2_Int) : VS.D := .agg [I x.x0, I x.x1]
def cmp_isNaN (a0 : Int) : Bool :=
  bif (a0 != a0) then
    true
  else
    false

theorem zR (a0 : Int) : (lim cfg).pure 111 [I a0] = some (B (cmp_isNaN a0)) := by
  unfold cmp_isNaN
  cases h1 : (a0 != a0) with
  | true =>
    have g1 := bne_true h1
    exact zk [.dec true] (And.intro h1 trivial) (by kernel_rfl)
  | false =>
    have g1 := bne_false h1
    exact zk [.dec false] (And.intro h1 trivial) (by kernel_rfl)

def cmp_Compare (x : Int) (y : Int) : Int :=
  bif (cmp_isNaN x) then
    bif (cmp_isNaN y) then
      0
    else
      (-1)
  else
    bif (cmp_isNaN y) then
      1
    else
      bif decide (x < y) then
        (-1)
      else
        bif decide (x > y) then
          1
        else
          0

theorem T_cmp_Compare (x : Int) (y : Int) : (lim cfg).pure 92 [I x, I y] = some (I (cmp_Compare x y)) := by
  unfold cmp_Compare
  cases h1 : (cmp_isNaN x) with
  | true =>
    cases h2 : (cmp_isNaN y) with
    | true =>
      exact zk [.pure (B (cmp_isNaN x)), .dec true, .pure (B (cmp_isNaN y)), .dec true] (And.intro h2 (And.intro (zR y) (And.intro h1 (And.intro (zR x) trivial)))) (by kernel_rfl)
    | false =>
      exact zk [.pure (B (cmp_isNaN x)), .dec true, .pure (B (cmp_isNaN y)), .dec false] (And.intro h2 (And.intro (zR y) (And.intro h1 (And.intro (zR x) trivial)))) (by kernel_rfl)
  | false =>
    cases h3 : (cmp_isNaN y) with
    | true =>
      exact zk [.pure (B (cmp_isNaN x)), .dec false, .pure (B (cmp_isNaN y)), .dec true] (And.intro h3 (And.intro (zR y) (And.intro h1 (And.intro (zR x) trivial)))) (by kernel_rfl)
    | false =>
      cases h4 : decide (x < y) with
      | true =>
        have g4 := of_decide_eq_true h4
        exact zk [.pure (B (cmp_isNaN x)), .dec false, .pure (B (cmp_isNaN y)), .dec false, .dec true] (And.intro h4 (And.intro h3 (And.intro (zR y) (And.intro h1 (And.intro (zR x) trivial))))) (by kernel_rfl)
      | false =>
        have g4 := of_decide_eq_false h4
        cases h5 : decide (x > y) with
        | true =>
          have g5 := of_decide_eq_true h5
          exact zk [.pure (B (cmp_isNaN x)), .dec false, .pure (B (cmp_isNaN y)), .dec false, .dec false, .dec true] (And.intro h5 (And.intro h4 (And.intro h3 (And.intro (zR y) (And.intro h1 (And.intro (zR x) trivial)))))) (by kernel_rfl)
        | false =>
          have g5 := of_decide_eq_false h5
          exact zk [.pure (B (cmp_isNaN x)), .dec false, .pure (B (cmp_isNaN y)), .dec false, .dec false, .dec false] (And.intro h5 (And.intro h4 (And.intro h3 (And.intro (zR y) (And.intro h1 (And.intro (zR x) trivial)))))) (by kernel_rfl)

def or2 (x0 x1 : Int) : Int := bif (x0 != 0) then x0 else bif (x1 != 0) then x1 else 0

def sd0 (x0 : Int) (x1 : Int) : St := ⟨18, [(2, I x0), (15, I x0), (14, B true), (13, I 0), (12, I x0), (5, I x0), (11, I x0), (10, .ptr (I x0)), (9, B true), (3, I 0), (6, .sl false [I x0, I x1] 1 none), (7, I 2), (8, I 0)], [], 0, 0⟩

noncomputable def lp91_3 : Code := subC [1, 1, 0, 1, 0, 0] (bodyC Try.f91)

def sd1 (x0 : Int) (x1 : Int) : St := ⟨18, [(2, I x1), (15, I x1), (14, B true), (13, I 0), (12, I x1), (5, I x1), (11, I x1), (10, .ptr (I x1)), (9, B true), (3, I 0), (6, .sl false [I x0, I x1] 1 none), (7, I 2), (8, I 1)], [], 0, 0⟩

theorem T_or2 (x0 x1 : Int) : (lim cfg).pure 91 [.sl false [I x0, I x1] 1 none] = some (I (or2 x0 x1)) := by
  unfold or2
  cases h1 : (x0 != 0) with
  | true =>
    have g1 := bne_true h1
    exact zk [.loop .ret (sd0 x0 x1)] (And.intro (show (lim cfg).loop 91 lp91_3 ⟨18, [(3, I 0), (6, .sl false [I x0, I x1] 1 none), (7, I 2), (8, I 0)], [], 0, 0⟩ = some (.ret, (sd0 x0 x1)) from (zS [.dec true, .dec true] (And.intro h1 (And.intro (Eq.refl true) trivial)) (by kernel_rfl))) trivial) (by kernel_rfl)
  | false =>
    have g1 := bne_false h1
    have l1 := (show ∀ q, (lim cfg).loop 91 lp91_3 ⟨18, [(3, I 0), (6, .sl false [I x0, I x1] 1 none), (7, I 2), (8, I 1)], [], 0, 0⟩ = some q → (lim cfg).loop 91 lp91_3 ⟨18, [(3, I 0), (6, .sl false [I x0, I x1] 1 none), (7, I 2), (8, I 0)], [], 0, 0⟩ = some q from fun q hq => po_turn (st1 := ⟨18, [(3, I 0), (6, .sl false [I x0, I x1] 1 none), (7, I 2), (8, I 1)], [], 0, 0⟩) [.dec true, .dec false] (And.intro h1 (And.intro (Eq.refl true) trivial)) hq (by kernel_rfl))
    cases h2 : (x1 != 0) with
    | true =>
      have g2 := bne_true h2
      exact zk [.loop .ret (sd1 x0 x1)] (And.intro (show (lim cfg).loop 91 lp91_3 ⟨18, [(3, I 0), (6, .sl false [I x0, I x1] 1 none), (7, I 2), (8, I 0)], [], 0, 0⟩ = some (.ret, (sd1 x0 x1)) from (l1 _ (zS [.dec true, .dec true] (And.intro h2 (And.intro (Eq.refl true) trivial)) (by kernel_rfl)))) trivial) (by kernel_rfl)
    | false =>
      have g2 := bne_false h2
      have l2 := (show ∀ q, (lim cfg).loop 91 lp91_3 ⟨18, [(3, I 0), (6, .sl false [I x0, I x1] 1 none), (7, I 2), (8, I 2)], [], 0, 0⟩ = some q → (lim cfg).loop 91 lp91_3 ⟨18, [(3, I 0), (6, .sl false [I x0, I x1] 1 none), (7, I 2), (8, I 1)], [], 0, 0⟩ = some q from fun q hq => po_turn (st1 := ⟨18, [(3, I 0), (6, .sl false [I x0, I x1] 1 none), (7, I 2), (8, I 2)], [], 0, 0⟩) [.dec true, .dec false] (And.intro h2 (And.intro (Eq.refl true) trivial)) hq (by kernel_rfl))
      exact zk [.loop (.exit 0) ⟨18, [(9, B false), (3, I 0), (6, .sl false [I x0, I x1] 1 none), (7, I 2), (8, I 2)], [], 0, 0⟩] (And.intro (show (lim cfg).loop 91 lp91_3 ⟨18, [(3, I 0), (6, .sl false [I x0, I x1] 1 none), (7, I 2), (8, I 0)], [], 0, 0⟩ = some ((.exit 0), ⟨18, [(9, B false), (3, I 0), (6, .sl false [I x0, I x1] 1 none), (7, I 2), (8, I 2)], [], 0, 0⟩) from (l1 _ (l2 _ (zS [.dec false] (And.intro (Eq.refl false) trivial) (by kernel_rfl))))) trivial) (by kernel_rfl)

def orders_front_1 (a : Arr2_Int) (b : Arr2_Int) : Int :=
  or2 (cmp_Compare a.x0 b.x0) (cmp_Compare b.x1 a.x1)

theorem T_orders_front_1 (a : Arr2_Int) (b : Arr2_Int) : (lim cfg).pure 98 [Arr2_Int.D a, Arr2_Int.D b] = some (I (orders_front_1 a b)) := by
  unfold orders_front_1
  exact zk [.pure (I (cmp_Compare a.x0 b.x0)), .pure (I (cmp_Compare b.x1 a.x1)), .pure (I (or2 (cmp_Compare a.x0 b.x0) (cmp_Compare b.x1 a.x1)))] (And.intro (T_or2 (cmp_Compare a.x0 b.x0) (cmp_Compare b.x1 a.x1)) (And.intro (T_cmp_Compare b.x1 a.x1) (And.intro (T_cmp_Compare a.x0 b.x0) trivial))) (by kernel_rfl)

theorem sane_ok : (lim cfg).pure 12 [] = some (B true) := lim_pure.2 ⟨40, by kernel_rfl⟩
end Go.VS.F0

/-
  slices.SortFunc as the seat's program has it, laid to the shelf's contract (written by the kit's lay-plain.mjs).
-/
namespace Go.Proofs
open Go.Shelf
def Try.sortP_ren : Go.Shelf.Ren := ⟨fun | 6 => 97 | 15 => 81 | 14 => 112 | 28 => 109 | 29 => 110 | 20 => 118 | 21 => 119 | 22 => 120 | 23 => 121 | 24 => 122 | 25 => 123 | 26 => 124 | 27 => 125 | 46 => 127 | 47 => 114 | 48 => 115 | 49 => 128 | 50 => 129 | 57 => 130 | n => n, fun | 22 => 29 | 24 => 47 | 25 => 132 | 3 => 3 | 39 => 121 | 0 => 0 | 53 => 144 | 55 => 146 | 4 => 4 | 46 => 136 | 45 => 135 | 50 => 141 | 5 => 5 | 9 => 9 | 66 => 148 | 70 => 152 | 76 => 159 | 77 => 97 | n => n, fun | n => n⟩
theorem Try.sortP : Go.Proofs.SlLaysF0.n6 Try.prog Try.sortP_ren := {
  mixed := by kernel_rfl
  f6 := ⟨Try.f97.name, by decide, Try.func97.trans (congrArg some (by kernel_rfl))⟩
  f14 := ⟨Try.f112.name, by decide, Try.func112.trans (congrArg some (by kernel_rfl))⟩
  f15 := Try.func81.trans (congrArg some (by kernel_rfl))
  f20 := ⟨Try.f118.name, by decide, Try.func118.trans (congrArg some (by kernel_rfl))⟩
  f21 := ⟨Try.f119.name, by decide, Try.func119.trans (congrArg some (by kernel_rfl))⟩
  f22 := ⟨Try.f120.name, by decide, Try.func120.trans (congrArg some (by kernel_rfl))⟩
  f23 := ⟨Try.f121.name, by decide, Try.func121.trans (congrArg some (by kernel_rfl))⟩
  f24 := ⟨Try.f122.name, by decide, Try.func122.trans (congrArg some (by kernel_rfl))⟩
  f25 := ⟨Try.f123.name, by decide, Try.func123.trans (congrArg some (by kernel_rfl))⟩
  f26 := ⟨Try.f124.name, by decide, Try.func124.trans (congrArg some (by kernel_rfl))⟩
  f27 := ⟨Try.f125.name, by decide, Try.func125.trans (congrArg some (by kernel_rfl))⟩
  f28 := Try.func109.trans (congrArg some (by kernel_rfl))
  f29 := Try.func110.trans (congrArg some (by kernel_rfl))
  f46 := ⟨Try.f127.name, by decide, Try.func127.trans (congrArg some (by kernel_rfl))⟩
  f47 := Try.func114.trans (congrArg some (by kernel_rfl))
  f48 := Try.func115.trans (congrArg some (by kernel_rfl))
  f49 := ⟨Try.f128.name, by decide, Try.func128.trans (congrArg some (by kernel_rfl))⟩
  f50 := ⟨Try.f129.name, by decide, Try.func129.trans (congrArg some (by kernel_rfl))⟩
  f57 := ⟨Try.f130.name, by decide, Try.func130.trans (congrArg some (by kernel_rfl))⟩
  t0 := Try.underlying0
  a0 := Try.isAgg0
  z0 := Try.sizeOf0
  v0 := Try.zeroValue0
  t3 := Try.underlying3
  a3 := Try.isAgg3
  z3 := Try.sizeOf3
  v3 := Try.zeroValue3
  t4 := Try.underlying4
  a4 := Try.isAgg4
  z4 := Try.sizeOf4
  v4 := Try.zeroValue4
  t5 := Try.underlying5
  a5 := Try.isAgg5
  z5 := Try.sizeOf5
  v5 := Try.zeroValue5
  t9 := Try.underlying9
  a9 := Try.isAgg9
  z9 := Try.sizeOf9
  v9 := Try.zeroValue9
  t22 := Try.underlying29
  a22 := Try.isAgg29
  z22 := Try.sizeOf29
  v22 := Try.zeroValue29
  t25 := Try.underlying132
  a25 := Try.isAgg132
  z25 := Try.sizeOf132
  v25 := Try.zeroValue132
  t39 := Try.underlying121
  a39 := Try.isAgg121
  z39 := Try.sizeOf121
  v39 := Try.zeroValue121
  t45 := Try.underlying135
  a45 := Try.isAgg135
  z45 := Try.sizeOf135
  v45 := Try.zeroValue135
  t46 := Try.underlying136
  a46 := Try.isAgg136
  z46 := Try.sizeOf136
  v46 := Try.zeroValue136
  t50 := Try.underlying141
  a50 := Try.isAgg141
  z50 := Try.sizeOf141
  v50 := Try.zeroValue141
  t53 := Try.underlying144
  a53 := Try.isAgg144
  z53 := Try.sizeOf144
  v53 := Try.zeroValue144
  t55 := Try.underlying146
  a55 := Try.isAgg146
  z55 := Try.sizeOf146
  v55 := Try.zeroValue146
  t66 := Try.underlying148
  a66 := Try.isAgg148
  z66 := Try.sizeOf148
  v66 := Try.zeroValue148
  t70 := Try.underlying152
  a70 := Try.isAgg152
  z70 := Try.sizeOf152
  v70 := Try.zeroValue152
  t76 := Try.underlying159
  a76 := Try.isAgg159
  z76 := Try.sizeOf159
  v76 := Try.zeroValue159
  t77 := Try.underlying97
  a77 := Try.isAgg97
  z77 := Try.sizeOf97
  v77 := Try.zeroValue97 }
end Go.Proofs

/-
  VS, part P: what arguments that read as data stand for; what a law's call leaves. (A text of this claim's own; nothing of it is trusted.)
-/
namespace Go.VS
open Go Go.RowKit Go.ChangeShapes Go.WideShapes

def memOf (w : World) : Mem := fun b o => w.cell? ⟨b, o, none⟩
theorem memOf_ok (w : World) : MOK (memOf w) w := fun _ _ _ h => h

/-- Which cells a value of a type may have. -/
def Sh (C : Cfg) : Nat → TypeId → List D → Prop
  | 0, _, _ => False
  | f + 1, t, ds => match C.ty t with
    | some ty => match ty.kind with
      | .int k => ∃ n, ds = [.val (.int k n)] ∧ k.min ≤ n ∧ n ≤ k.max
      | .bool => ∃ b, ds = [B b]
      | .str => ∃ s : ByteArray, ds = [.val (.string s)] ∧ s.size ≤ maxLen
      | .struct fs => ds.length = ty.size ∧ ∀ p ∈ fs, ∃ tf, C.ty p.1 = some tf ∧ Sh C f p.1 ((ds.drop p.2).take tf.size)
      | .arr n e => ds.length = ty.size ∧ ∃ te, C.ty e = some te ∧ ∀ i, i < n → Sh C f e ((ds.drop (i * te.size)).take te.size)
      | .slice e => ds = [.sl true [] 0 none] ∨ ∃ els te, C.ty e = some te ∧ ds = [.sl false els te.size none] ∧ els.length ≤ maxLen ∧
          ∀ d ∈ els, Sh C f e d.cells ∧ (te.isAgg = true → d = .agg d.cells) ∧ (te.isAgg = false → d.cells = [d])
      | _ => False
    | none => False
/-- Types without slices. -/
def flatT (C : Cfg) : Nat → TypeId → Bool
  | 0, _ => false
  | f + 1, t => match C.ty t with
    | some ty => match ty.kind with
      | .int _ => true
      | .bool => true
      | .str => true
      | .struct fs => fs.all fun p => flatT C f p.1
      | .arr _ e => flatT C f e
      | _ => false
    | none => false
/-- Types with slices. -/
def topT (C : Cfg) : Nat → TypeId → Bool
  | 0, _ => false
  | f + 1, t => match C.ty t with
    | some ty => match ty.kind with
      | .int _ => true
      | .bool => true
      | .str => true
      | .struct fs => fs.all fun p => topT C f p.1
      | .arr _ e => topT C f e
      | .slice e => topT C f e
      | _ => false
    | none => false
def plainCells (cs : List Value) : Prop := ∀ v ∈ cs, ∀ a l c, v = .slice (some a) l c → a.spot = none

theorem cellsOf_of {P : Program} {t : TypeId} {ty : Ty} (h : tyOf P t = some ty) : P.cellsOf t = ty.size := by
  obtain ⟨i, d, hi, hd, hz, hk, hs, hb⟩ := tyOf_spec h
  simp [Program.cellsOf, hi, hs]

theorem list_parts {α : Type} (l : List α) (n k : Nat) (h : l.length = n * k) : l = (List.range n).flatMap fun i => (l.drop (i * k)).take k := by
  induction n generalizing l with
  | zero => simp at h ⊢; exact h
  | succ n ih =>
    rw [List.range_succ_eq_map, List.flatMap_cons]
    simp only [Nat.zero_mul, List.drop_zero, List.flatMap_map]
    have hl : (l.drop k).length = n * k := by rw [List.length_drop, h, Nat.add_mul]; omega
    have e := ih (l.drop k) hl
    have : (List.range n).flatMap (fun i => ((l.drop k).drop (i * k)).take k) = (List.range n).flatMap (fun i => (l.drop ((i + 1) * k)).take k) := by
      congr 1; funext i; rw [List.drop_drop]; congr 2; rw [Nat.add_mul]; omega
    rw [this] at e
    calc l = l.take k ++ l.drop k := (List.take_append_drop k l).symm
      _ = _ := by rw [← e]

/-- Parts that stand for parts, put together. -/
theorem zM.join {M : Mem} {Q : Nat → List D → Prop} : ∀ (n : Nat) (F : Nat → List Value), (∀ i, i < n → ∃ ds, zM M noLoc ds (F i) ∧ Q i ds) →
    ∃ G : Nat → List D, zM M noLoc ((List.range n).flatMap G) ((List.range n).flatMap F) ∧ ∀ i, i < n → zM M noLoc (G i) (F i) ∧ Q i (G i) := by
  intro n F h
  obtain ⟨G, hG⟩ := Go.Deep.choose_lt (α := List D) (p := fun i ds => zM M noLoc ds (F i) ∧ Q i ds) h
  refine ⟨G, ?_, hG⟩
  have : ∀ l : List Nat, (∀ i ∈ l, i < n) → zM M noLoc (l.flatMap G) (l.flatMap F) := by
    intro l
    induction l with
    | nil => intro _; simp [zM]
    | cons a l ih =>
      intro hl
      simp only [List.flatMap_cons]
      exact zM.append (hG a (hl a (by simp))).1 (ih fun i hi => hl i (List.mem_cons_of_mem _ hi))
  exact this _ fun i hi => by simpa using hi
theorem flatMap_part {α : Type} (n : Nat) (G : Nat → List α) (k : Nat) (h : ∀ i, i < n → (G i).length = k) (i : Nat) (hi : i < n) : (((List.range n).flatMap G).drop (i * k)).take k = G i := by
  induction n generalizing i G with
  | zero => omega
  | succ n ih =>
    rw [List.range_succ_eq_map, List.flatMap_cons, List.flatMap_map]
    have h0 := h 0 (by omega)
    cases i with
    | zero => simp [← h0]
    | succ i =>
      rw [List.drop_append, List.drop_eq_nil_of_le (by rw [h0, Nat.add_mul]; omega), List.nil_append, h0]
      have : (i + 1) * k - k = i * k := by rw [Nat.add_mul]; omega
      rw [this]
      exact ih (fun i => G (i + 1)) (fun i hi => h (i + 1) (by omega)) i (by omega)

/-- The fields of a struct cover its cells, one behind the other. -/
def rowed : Nat → List (Nat × Nat) → Option Nat
  | o, [] => some o
  | o, (off, size) :: r => if off = o then rowed (o + size) r else none
def rowedT (C : Cfg) : Nat → TypeId → Bool
  | 0, _ => false
  | f + 1, t => match C.ty t with
    | some ty => match ty.kind with
      | .int _ => ty.size == 1
      | .bool => ty.size == 1
      | .str => ty.size == 1
      | .slice e => ty.size == 1 && (match C.ty e with | some te => rowedT C f e && decide (0 < te.size) | none => false)
      | .struct fs => (fs.all fun p => rowedT C f p.1) && (match placesOf C fs with | some pl => rowed 0 pl == some ty.size | none => false)
      | .arr n e => rowedT C f e && (match C.ty e with | some te => ty.size == n * te.size | none => false)
      | _ => false
    | none => false

theorem rowed_parts {M : Mem} {cs : List Value} : ∀ (l : List (Nat × Nat)) (o n : Nat), rowed o l = some n → n ≤ cs.length → ∀ {Q : Nat → List D → Prop},
    (∀ i p, l[i]? = some p → ∃ ds, zM M noLoc ds ((cs.drop p.1).take p.2) ∧ Q i ds) →
    ∃ ds, zM M noLoc ds ((cs.drop o).take (n - o)) ∧ ds.length = n - o ∧ o ≤ n ∧ ∀ i p, l[i]? = some p → o ≤ p.1 ∧ Q i ((ds.drop (p.1 - o)).take p.2)
  | [], o, n, h, hn, Q, _ => by
    simp only [rowed, Option.some.injEq] at h; subst h
    exact ⟨[], by simp [zM], by simp, Nat.le_refl _, by simp⟩
  | (off, size) :: r, o, n, h, hn, Q, hq => by
    simp only [rowed] at h
    split at h
    · rename_i ho; subst ho
      obtain ⟨d0, h1, h2⟩ := hq 0 (off, size) rfl
      obtain ⟨ds, k1, k2, k3, k4⟩ := rowed_parts r (off + size) n h hn (Q := fun i => Q (i + 1)) (fun i p hp => hq (i + 1) p (by simpa using hp))
      have hl : d0.length = size := by rw [← h1.length, List.length_take, List.length_drop]; omega
      refine ⟨d0 ++ ds, ?_, by simp [hl, k2]; omega, by omega, fun i p hp => ?_⟩
      · have e : (cs.drop off).take (n - off) = (cs.drop off).take size ++ (cs.drop (off + size)).take (n - (off + size)) := by
          rw [show n - off = size + (n - (off + size)) by omega, List.take_add, List.drop_drop]
        rw [e]; exact h1.append k1
      · cases i with
        | zero => simp at hp; subst hp; simp [← hl]; simpa [hl] using h2
        | succ i =>
          obtain ⟨q1, q2⟩ := k4 i p (by simpa using hp)
          refine ⟨by omega, ?_⟩
          rw [List.drop_append, List.drop_eq_nil_of_le (by omega), List.nil_append, hl, show p.1 - off - size = p.1 - (off + size) by omega]
          exact q2
    · cases h

section
variable {H : Type} {enc : TypeId × Value → H} {C : Cfg} {w : World} {base : Nat} {sp : Nat → Bool} {held : Bool}

theorem placesOf_get : ∀ {fs : List (TypeId × Nat)} {pl : List (Nat × Nat)}, placesOf C fs = some pl → fs.length = pl.length ∧ ∀ (i : Nat) (p : Nat × Nat), pl[i]? = some p → ∃ t ty, fs[i]? = some (t, p.1) ∧ C.ty t = some ty ∧ ty.size = p.2
  | [], pl, h => by simp [placesOf] at h; subst h; simp
  | (t, off) :: r, pl, h => by
    simp only [placesOf] at h
    split at h
    · rename_i ty l h1 h2
      cases h
      obtain ⟨k1, k2⟩ := placesOf_get h2
      refine ⟨by simp [k1], fun i p hp => ?_⟩
      cases i with
      | zero => simp at hp; subst hp; exact ⟨t, ty, by simp, h1, rfl⟩
      | succ i => obtain ⟨t', ty', a, b, c⟩ := k2 i p (by simpa using hp); exact ⟨t', ty', by simpa using a, b, c⟩
    · cases h

theorem fieldsOf_get {fs : Array Field} {i : Nat} {p : TypeId × Nat} (h : (fs.toList.map fun f => (f.type, f.offset))[i]? = some p) : ∃ f : Field, fs[i]? = some f ∧ f.type = p.1 ∧ f.offset = p.2 := by
  rw [List.getElem?_map] at h
  cases hf : fs.toList[i]? with
  | none => rw [hf] at h; cases h
  | some f => rw [hf] at h; cases h; exact ⟨f, by simpa using hf, rfl, rfl⟩

/-- What reads as data has a deep value. -/
theorem trod_rep' (hC : ∀ t ty, C.ty t = some ty → tyOf C.P t = some ty) : ∀ (f n : Nat) (t : TypeId) (cs : List Value) (x : DataW H × List MemPlace),
    DataW.trod enc C.P w base sp held n t cs = some x → topT C f t = true → rowedT C f t = true →
    ∃ ds, zM (memOf w) noLoc ds cs ∧ Sh C f t ds
  | 0, _, _, _, _, _, h, _ => by cases h
  | f + 1, n, t, cs, x, h, ht, hw => by
    unfold topT at ht
    split at ht
    case h_2 => cases ht
    rename_i ty hty
    have hto := hC _ _ hty
    obtain ⟨i, d, hi, hd, hz, hk, hs, hb⟩ := tyOf_spec hto
    unfold rowedT at hw
    rw [hty] at hw; simp only [] at hw
    unfold Sh
    rw [hty]; simp only []
    cases d <;> simp only [tkOf] at hk <;> rw [hk] at ht hw ⊢ <;> simp only [] at ht hw ⊢ <;> (try (cases ht; done))
    case bool =>
      obtain ⟨b, rfl, _⟩ := DataW.trod_bool hd h
      exact ⟨[B b], by simp [zM, Rep], b, rfl⟩
    case int k =>
      obtain ⟨m, rfl, _, hwf⟩ := DataW.trod_int hd h
      simp only [Lit.wf, Bool.and_eq_true, decide_eq_true_eq] at hwf
      exact ⟨[.val (.int k m)], by simp [zM, Rep], m, rfl, hwf⟩
    case string =>
      obtain ⟨s, rfl, _, hsz⟩ := DataW.trod_string hd h
      exact ⟨[.val (.string s)], by simp [zM, Rep], s, rfl, hsz⟩
    case struct fs =>
      obtain ⟨xs, m, rfl, _, hl, hxl, hf⟩ := DataW.trod_struct hd h
      rw [cellsOf_of hto] at hl
      simp only [Bool.and_eq_true] at hw
      obtain ⟨hw1, hw2⟩ := hw
      split at hw2
      case h_2 => cases hw2
      rename_i pl hpl
      have hrow : rowed 0 pl = some ty.size := by simpa using hw2
      obtain ⟨hlen, hget⟩ := placesOf_get hpl
      obtain ⟨ds, k1, k2, _, k4⟩ := rowed_parts (M := memOf w) (cs := cs) pl 0 ty.size hrow (by omega) (Q := fun i ds => ∃ p, (fs.toList.map fun f => (f.type, f.offset))[i]? = some p ∧ Sh C f p.1 ds) (fun i p hp0 => by
        obtain ⟨t', ty', a, b, c⟩ := hget i p hp0
        obtain ⟨fd, e1, e2, e3⟩ := fieldsOf_get a
        simp only [] at e2 e3
        have hmem := List.mem_of_getElem? a
        simp only [List.all_eq_true] at ht hw1
        have hx := hf i fd e1
        have hil : i < xs.length := by rw [hxl]; exact (Array.getElem?_eq_some_iff.1 e1).1
        rw [List.getElem?_eq_getElem hil, e2, e3, cellsOf_of (hC _ _ b), c] at hx
        obtain ⟨ds, q1, q2⟩ := trod_rep' hC f m _ _ _ hx (ht _ hmem) (hw1 _ hmem)
        exact ⟨ds, q1, _, a, q2⟩)
      simp only [List.drop_zero, Nat.sub_zero] at k1 k2 k4
      rw [← hl, List.take_length] at k1
      refine ⟨ds, k1, k2, fun p hpm => ?_⟩
      obtain ⟨i, hi'⟩ := List.mem_iff_getElem?.1 hpm
      have hil : i < pl.length := by rw [← hlen]; exact (List.getElem?_eq_some_iff.1 hi').1
      obtain ⟨t', ty', a, b, c⟩ := hget i pl[i] (List.getElem?_eq_getElem hil)
      rw [hi'] at a; cases a
      obtain ⟨_, p', q1, q2⟩ := k4 i pl[i] (List.getElem?_eq_getElem hil)
      rw [hi'] at q1; cases q1
      exact ⟨ty', b, by rw [c]; exact q2⟩
    case array m e =>
      obtain ⟨xs, m', rfl, _, hl, hxl, hf⟩ := DataW.trod_array hd h
      rw [cellsOf_of hto] at hl
      simp only [Bool.and_eq_true] at hw
      obtain ⟨hw1, hw2⟩ := hw
      split at hw2
      case h_2 => cases hw2
      rename_i te hte
      have hsz : ty.size = m * te.size := by simpa using hw2
      have hce := cellsOf_of (hC _ _ hte)
      have hpart := list_parts cs m te.size (by rw [hl, hsz])
      obtain ⟨G, g1, g2⟩ := zM.join (M := memOf w) (Q := fun _ ds => Sh C f e ds) m (fun i => (cs.drop (i * te.size)).take te.size) (fun i hi => by
        have hx := hf i hi
        rw [List.getElem?_eq_getElem (by omega), hce] at hx
        exact trod_rep' hC f m' _ _ _ hx ht hw1)
      rw [← hpart] at g1
      have hGl : ∀ i, i < m → (G i).length = te.size := by
        intro i hi
        rw [← (g2 i hi).1.length, List.length_take, List.length_drop, hl, hsz]
        have : (i + 1) * te.size ≤ m * te.size := Nat.mul_le_mul_right _ hi
        rw [Nat.add_mul] at this; omega
      refine ⟨_, g1, by rw [← g1.length]; exact hl, te, hte, fun i hi => ?_⟩
      rw [flatMap_part m G te.size hGl i hi]
      exact (g2 i hi).2
    case slice e =>
      simp only [Bool.and_eq_true] at hw
      obtain ⟨_, hw2⟩ := hw
      split at hw2
      case h_2 => cases hw2
      rename_i te hte
      simp only [Bool.and_eq_true, decide_eq_true_eq] at hw2
      obtain ⟨hw2, hpos⟩ := hw2
      have hce := cellsOf_of (hC _ _ hte)
      rcases Go.Deep.open_slice hd h with ⟨rfl, _⟩ | ⟨a, len, cap, m, n', Dd, Pl, rfl, hb, hl, hm, hmm, _, hx⟩
      · exact ⟨[.sl true [] 0 none], by simp [zM, Rep], .inl rfl⟩
      · have hlm : len ≤ m := by rw [hmm]; split <;> omega
        have hsp : 0 < len → a.spot = none := fun hpl => by
          obtain ⟨cs', c1, c2⟩ := hx 0 (by omega)
          obtain ⟨_, c3, c4⟩ := World.cells?_some c1
          rw [hce] at c3 c4
          have := World.cell?_spot ((c4 0 hpos).trans (List.getElem?_eq_getElem (by rw [c3]; exact hpos)))
          simpa [Addr.add] using this
        obtain ⟨b, o, s⟩ := a
        simp only [] at hsp
        obtain ⟨G, hG⟩ := Go.Deep.choose_lt (α := D) (p := fun i d => (∃ u, Rep (memOf w) noLoc d u ∧ u.cells.size = te.size ∧ MemAt (memOf w) b (o + i * te.size) u.cells) ∧ Sh C f e d.cells ∧ (te.isAgg = true → d = .agg d.cells) ∧ (te.isAgg = false → d.cells = [d])) (n := len) (fun i hi => by
          obtain rfl := hsp (by omega)
          obtain ⟨cs', c1, c2⟩ := hx i (by omega)
          obtain ⟨_, c3, c4⟩ := World.cells?_some c1
          obtain ⟨ds, q1, q2⟩ := trod_rep' hC f n' e cs' _ c2 ht hw2
          rw [hce] at c3 c4
          have hM : MemAt (memOf w) b (o + i * te.size) cs'.toArray := by
            intro j u hu
            have hj : j < te.size := by
              have := (Array.getElem?_eq_some_iff.1 hu).1; simpa [c3] using this
            have := c4 j hj
            rw [addr_add, addr_add] at this
            unfold memOf
            rw [this]; simpa using hu
          cases hag : te.isAgg with
          | true =>
            refine ⟨.agg ds, ⟨.agg cs'.toArray, ?_, by simpa [Value.cells] using c3, hM⟩, q2, fun _ => rfl, fun h => by simp at h⟩
            simp only [Rep]; exact ⟨_, rfl, by simpa using q1⟩
          | false =>
            -- one cell
            obtain ⟨i2, d2, _, hd2, _, hk2, _, _⟩ := tyOf_spec (hC _ _ hte)
            have h1 : te.size = 1 ∧ ∃ d v, ds = [d] ∧ d.cells = [d] ∧ cs' = [v] ∧ v.cells = #[v] := by
              cases f with
              | zero => cases ht
              | succ f =>
                unfold topT at ht; unfold rowedT at hw2; unfold Sh at q2
                rw [hte] at ht hw2 q2; simp only [] at ht hw2 q2
                cases d2 <;> simp only [tkOf] at hk2 <;> rw [hk2] at ht hw2 q2 <;> simp only [] at ht hw2 q2 <;> (try (cases ht; done))
                · obtain ⟨b', rfl⟩ := q2
                  simp only [zM, Rep] at q1
                  obtain ⟨v, r, rfl, rfl, rfl⟩ := q1
                  exact ⟨by simpa using hw2, _, _, rfl, rfl, rfl, rfl⟩
                · obtain ⟨z, rfl, _⟩ := q2
                  simp only [zM, Rep] at q1
                  obtain ⟨v, r, rfl, rfl, rfl⟩ := q1
                  exact ⟨by simpa using hw2, _, _, rfl, rfl, rfl, rfl⟩
                · obtain ⟨z, rfl, _⟩ := q2
                  simp only [zM, Rep] at q1
                  obtain ⟨v, r, rfl, rfl, rfl⟩ := q1
                  exact ⟨by simpa using hw2, _, _, rfl, rfl, rfl, rfl⟩
                all_goals first
                  | (simp [Ty.isAgg, hk2] at hag; done)
                  | (simp only [Bool.and_eq_true] at hw2
                     rcases q2 with rfl | ⟨els, te', _, rfl, _⟩
                     all_goals
                       simp only [zM] at q1
                       obtain ⟨v, r, rfl, q1, rfl⟩ := q1
                       refine ⟨by simpa using hw2.1, _, v, rfl, rfl, rfl, ?_⟩
                       simp only [Rep] at q1
                     · rw [(q1.1 trivial).2]; rfl
                     · obtain ⟨_, _, _, _, h1, _⟩ := q1.2 trivial; rw [h1]; rfl)
            obtain ⟨hsz, dd, v, rfl, hdc, rfl, hvc⟩ := h1
            simp only [zM] at q1
            obtain ⟨v', r, e1, q1, rfl⟩ := q1
            cases e1
            refine ⟨dd, ⟨v, q1, by rw [hvc, hsz]; rfl, by rw [hvc]; exact hM⟩, by rw [hdc]; exact q2, fun h => by simp at h, fun _ => hdc⟩)
        refine ⟨[.sl false ((List.range len).map G) te.size none], ?_, .inr ⟨_, te, hte, rfl, by simp; omega, fun d hd' => ?_⟩⟩
        · simp only [zM, Rep]
          refine ⟨_, [], rfl, ⟨by simp, fun _ => ⟨b, o, s, cap, by simp, fun hne => hsp (by
            rcases Nat.eq_zero_or_pos len with h0 | h0
            · subst h0; exact absurd rfl hne
            · exact h0), by simpa using hl, hm, by simp, RepE.ofGet fun i d hd' => ?_⟩⟩, rfl⟩
          rw [List.getElem?_map] at hd'
          have hi' : i < len := by
            rcases Nat.lt_or_ge i len with h | h
            · exact h
            · rw [List.getElem?_eq_none (by simpa using h)] at hd'; cases hd'
          rw [List.getElem?_range hi'] at hd'; cases hd'
          exact (hG i hi').1
        · obtain ⟨i, hi', rfl⟩ := List.mem_map.1 hd'
          exact (hG i (by simpa using hi')).2
theorem trod_rep (hC : ∀ t ty, C.ty t = some ty → tyOf C.P t = some ty) (f n : Nat) (t : TypeId) (cs : List Value) (x : DataW H × List MemPlace)
    (h : DataW.trod enc C.P w base sp held n t cs = some x) (h1 : topT C f t = true) (h2 : rowedT C f t = true) (_ : plainCells cs ∨ flatT C f t = true) : ∃ ds, zM (memOf w) noLoc ds cs ∧ Sh C f t ds := trod_rep' hC f n t cs x h h1 h2

/-- An argument. -/
theorem plain_arg {P : Program} {r : Reach} {base : Nat} {t : TypeId} {v : Value} (h : Value.okWide P w r base t v) : plainCells v.cells.toList := by
  have key : ∀ u x, Cell.okWide P w r base u x → ∀ a l c, x = .slice (some a) l c → a.spot = none := by
    rintro u x hx a l c rfl
    unfold Cell.okWide at hx
    split at hx <;> try (rename_i h1 h2; cases h2; done)
    unfold Cell.ok at hx
    split at hx <;> try (rename_i h1 h2; cases h2; done)
    · rename_i h1 h2
      cases h2
      exact hx.2.2.2.1
    · cases hx
  unfold Value.okWide at h
  split at h
  · obtain ⟨cs, rfl, _, ts, _, _, hc⟩ := h
    intro x hx
    obtain ⟨i, hi⟩ := List.mem_iff_getElem?.1 hx
    obtain ⟨u, _, hu⟩ := hc i x (by simpa [Value.cells] using hi)
    exact key u x hu
  · obtain ⟨cs, rfl, _, ts, _, _, hc⟩ := h
    intro x hx
    obtain ⟨i, hi⟩ := List.mem_iff_getElem?.1 hx
    obtain ⟨u, _, hu⟩ := hc i x (by simpa [Value.cells] using hi)
    exact key u x hu
  · intro x hx a l c e
    have hv : x = v ∨ ∃ cs, v = .agg cs := by
      cases v <;> first | exact .inr ⟨_, rfl⟩ | (left; simpa [Value.cells] using hx)
    rcases hv with rfl | ⟨cs, rfl⟩
    · exact key t x h a l c e
    · exfalso
      unfold Cell.okWide at h
      split at h <;> try (rename_i h1 h2; cases h2; done)
      unfold Cell.ok at h
      split at h <;> first | (rename_i h1 h2; cases h2; done) | cases h
end
end Go.VS

/-
  VS, part P2: what a law's call leaves, as its row says it. (A text of this claim's own; nothing of it is trusted.)
-/
namespace Go.VS
open Go Go.RowKit Go.ChangeShapes Go.WideShapes

section
variable {H : Type} {enc : TypeId × Value → H} {P : Program}
theorem trodAll_carry {w w' : World} {base : Nat} {sp : Nat → Bool} {held : Bool} : ∀ {ts : List TypeId} {vs : List Value} {ds : List (DataW H)} {ps : List MemPlace}, DataW.TrodAll enc P w base sp held ts vs ds ps → (∀ p ∈ ps, w.sameAt w' p) → DataW.TrodAll enc P w' base sp held ts vs ds ps
  | [], [], [], _, h, _ => h
  | _ :: _, _ :: _, _ :: _, _, ⟨p, q, ⟨n, h1⟩, h2, e⟩, hs => ⟨p, q, ⟨n, DataW.trod_carry n _ _ _ h1 (fun x hx => hs x (by rw [e]; exact List.mem_append_left _ hx))⟩, trodAll_carry h2 (fun x hx => hs x (by rw [e]; exact List.mem_append_right _ hx)), e⟩
theorem sameAt_of {w w' : World} (h : ∀ b, b < w.heap.size → w'.heap[b]? = w.heap[b]?) : ∀ p : MemPlace, p.block < w.heap.size → w.sameAt w' p
  | .cell b off, hp => by
    show w'.cell? ⟨b, off, none⟩ = w.cell? ⟨b, off, none⟩
    unfold World.cell?
    rw [h b hp]
  | .map b, hp => h b hp
theorem post_same {f : Func} {s : ChangeSpec} {apart fresh handsOn again : Bool} {W W' : World} {args : Array Value} {v : Value} {ds gs : List (DataW H)} {before pa pv : List MemPlace}
    (hW : DataW.Whole enc P f.params.toList s.vars apart W args.toList ds gs before)
    (hres : ∀ (b : Nat) (sp : Nat → Bool) (hd : Bool), DataW.TrodAll enc P W' b sp hd f.resultTypes.toList (v.resultList f.resultTypes.size) (s.fn H (ds ++ gs)).results [])
    (hargs : ∀ sp : Nat → Bool, (∀ p ∈ before, sp p.block = true) → DataW.TrodAll enc P W' 0 sp true f.params.toList args.toList (s.fn H (ds ++ gs)).args pa)
    (hvars : ∀ sp : Nat → Bool, (∀ p ∈ before, sp p.block = true) → DataW.TrodVars enc P W' sp s.vars (s.fn H (ds ++ gs)).vars pv)
    (hps : before = pa ++ pv) (hk : W.keptBut W' (· ∈ before)) (hfz : ∀ p ∈ before, ∀ b off, p = .cell b off → W'.frozen? ⟨b, off, none⟩ = W.frozen? ⟨b, off, none⟩)
    (hok : ∀ (j : Nat) (t : TypeId) (r : Value), f.resultTypes[j]? = some t → (v.resultList f.resultTypes.size)[j]? = some r → Value.okWide P W' .any 0 t r) :
    s.post enc P f apart fresh handsOn again W args v W' := by
  have hold : ∀ p ∈ before, (fun b => decide (b < W.heap.size)) p.block = true := fun p hp => by simpa using hW.lt p hp
  refine ⟨ds, gs, before, [], pa, pv, hW, hres _ _ _, hargs _ hold, hvars _ hold, World.keptBut_mono (fun p hp => ⟨hp, ?_⟩) hk, fun _ => ?_⟩
  · rw [hps, List.mem_append] at hp
    exact Or.inr hp
  · obtain ⟨_, _, _, _, _, hz, hn⟩ := hW
    refine ⟨hok, _, _, ([] ++ pa) ++ pv, ⟨[] ++ pa, pv, trodAll_append (hargs _ (fun _ _ => rfl)) (hres _ _ _), hvars _ (fun _ _ => rfl), rfl, ?_, ?_⟩, ?_⟩
    · intro b off hp
      have hp' : MemPlace.cell b off ∈ before := by rw [hps]; simpa using hp
      rw [hfz _ hp' b off rfl]
      exact hz b off hp'
    · intro ha
      have := hn ha
      rw [hps] at this
      simpa using this
    · intro p hp _
      rw [hps]
      simpa using hp

theorem law_post {C : Cfg} (hC : CfgOK C) (hX : ExtOK C) (hl : laidOutB C.P = true) (hm : mapsRowed C.P = true) (hz : ∀ t e, t < C.P.types.size → C.P.underlying t = some (.slice e) → 0 < C.P.cellsOf e)
    {K : FuncId} {dsD : List D} (hpure : (lim C).pure K dsD = some (B true)) {W : World} {args : Array Value} (hrep : zM (memOf W) noLoc dsD args.toList) (hG : yg C (memOf W))
    {f : Func} {s : ChangeSpec} {apart fresh handsOn again : Bool} {ds gs : List (DataW H)} {before : List MemPlace}
    (hW : DataW.Whole enc C.P f.params.toList s.vars apart W args.toList ds gs before) (hv : s.vars = [])
    (hfn : s.fn H ds = { results := [.lit (.bool true)], args := ds }) {tb : TypeId} (hres : f.resultTypes = #[tb]) (htb : C.P.underlying tb = some .bool)
    (hts : ∀ t ∈ f.params.toList, t < C.P.types.size) :
    Calls C.P K args W fun e W' => ∃ v, e = .returned v ∧ s.post enc C.P f apart fresh handsOn again W args v W' := by
  refine (lim_sound hC hX hpure (memOf W) W args (memOf_ok W) hG hrep).mono ?_
  rintro e W' ⟨v, M', rfl, k1, k2, k3, k4, k5, k6, k7, k8, k9⟩
  simp only [Rep] at k3; subst k3
  have hW' := hW
  obtain ⟨p, q, hA, hVars, rfl, hnf, hnd⟩ := hW'
  rw [hv] at hVars
  obtain ⟨rfl, rfl⟩ : gs = [] ∧ q = [] := by
    cases gs with
    | nil => exact ⟨rfl, hVars⟩
    | cons g gs => cases hVars
  have hlt := hW.lt
  refine ⟨_, rfl, post_same (pa := p) (pv := []) hW ?_ ?_ ?_ rfl ?_ ?_ ?_⟩
  · intro b sp hd
    rw [List.append_nil, hfn, hres]
    refine ⟨[], [], ⟨1, ?_⟩, rfl, rfl⟩
    simp [DataW.trod, htb, Value.cells]
  · intro sp hsp
    rw [List.append_nil, hfn]
    refine trodAll_carry (DataW.TrodAll.respare (T := (· < C.P.types.size)) (kids_rows hl hm) hz hts hA (fun p hp => hsp p (by simpa using hp))) (fun p hp => sameAt_of k8 p (hlt p (by simpa using hp)))
  · intro sp hsp
    rw [List.append_nil, hfn, hv]; rfl
  · refine ⟨k4.1, k6, fun i hi => ?_⟩
    rw [k8 i hi]
    cases hh : W.heap[i]? with
    | none => trivial
    | some o => cases o <;> simp
  · rintro _ hp b off rfl
    unfold World.frozen?
    rw [k8 b (hlt _ hp)]
  · intro j t r h1 h2
    rw [hres] at h1 h2
    cases j with
    | zero =>
      simp at h1; subst h1
      simp [Value.resultList] at h2; subst h2
      simp [Value.okWide, htb, Cell.okWide, Cell.ok]
    | succ j => simp at h1
end
end Go.VS

/-
  VS, part S1: a row of pairs in memory, sorted. (A text of this claim's own; nothing of it is trusted.)
-/
namespace Go.VS
open Go Go.RowKit Go.Proofs Go.Sort Go.Shelf
def pairV (x : Int × Int) : List Value := [.int .i64 x.1, .int .i64 x.2]
def pairD (x : Int × Int) : D := .agg [I x.1, I x.2]
section
variable {E : Env} {M : Mem} {m : Loc} {w : World} {g : Nat → Option Ob}
theorem Rel.ahead (h : Rel E M m w g) (n : Nat) : Rel E M m (Sort.ahead w n) g :=
  ⟨⟨h.os.1, Nat.le_trans h.os.2 (Nat.le_add_right _ _)⟩, h.tape, h.output, h.size, h.keep, h.frlt, h.mfr, h.mok, ⟨h.ro.at_, h.ro.excl, h.ro.inj, h.ro.fr⟩⟩
theorem grow_heap (w : World) (os : Array Obj) {b : Nat} (h : b < w.heap.size) : (grow w os).heap[b]? = w.heap[b]? := by
  show (w.heap ++ os)[b]? = _
  rw [Array.getElem?_append_left h]
theorem Rel.grow (h : Rel E M m w g) (os : Array Obj) : Rel E M m (Sort.grow w os) g := by
  refine ⟨h.os, h.tape, h.output, ?_, fun b hb => ?_, h.frlt, h.mfr, fun b i v hv => ?_, ⟨fun x ob hx => ?_, h.ro.excl, h.ro.inj, h.ro.fr⟩⟩
  · show _ ≤ (w.heap ++ os).size
    have := h.size
    simp
    omega
  · rw [grow_heap w os (Nat.lt_of_lt_of_le (h.frlt b hb) h.size)]; exact h.keep b hb
  · have := h.mok b i v hv
    have hlt := World.block_lt_of_cell? w _ this
    unfold World.cell? at this ⊢
    rw [grow_heap w os hlt]
    exact this
  · obtain ⟨b, s, c, t, q1, q2, q3, q4⟩ := h.ro.at_ x ob hx
    exact ⟨b, s, c, t, q1, by rw [grow_heap w os (Array.getElem?_eq_some_iff.1 q2).1]; exact q2, q3, q4⟩
theorem mapBlock_setRow {b : Nat} {c : Array Value} {t : TypeId} {fr : Nat × Nat} (h : w.heap[b]? = some (.cells c t fr)) (f : Array Value → Array Value) : mapBlock w b f = w.setRow b (f c) := by
  unfold mapBlock World.setRow
  congr 1
  refine Array.ext_getElem? fun i => ?_
  simp only [Array.getElem?_modify]
  by_cases hi : b = i
  · subst hi
    simp only [if_true, h, Option.map_some, onCells]
  · simp only [hi, if_false]
theorem flat_get (l : List (Int × Int)) {i j : Nat} (hi : i < l.length) (hj : j < 2) : (flatK pairV 2 l.toArray)[i * 2 + j]! = (pairV l[i])[j]! := by
  rw [get_flatK pairV 2 l.toArray _ (by simp; omega)]
  have e1 : (i * 2 + j) / 2 = i := by omega
  have e2 : (i * 2 + j) % 2 = j := by omega
  rw [e1, e2]
  simp [hi]
theorem pairD_rep (x : Int × Int) : Rep M m (pairD x) (.agg (pairV x).toArray) := by
  simp only [pairD, Rep]
  exact ⟨_, rfl, by simp [zM, Rep, pairV]⟩
theorem pairD_inv {x : Int × Int} {u : Value} (h : Rep M m (pairD x) u) : u = .agg (pairV x).toArray := by
  simp only [pairD, Rep] at h
  obtain ⟨vs, rfl, h⟩ := h
  simp only [zM, Rep] at h
  obtain ⟨v, r, e1, rfl, v2, r2, e2, rfl, e3⟩ := h
  subst e3 e2
  have : vs = [Value.int .i64 x.1, Value.int .i64 x.2].toArray := by rw [← e1]
  rw [this]; rfl
theorem pair_cell {x : Int × Int} {j : Nat} (hj : j < 2) : (Value.agg (pairV x).toArray).cells[j]? = some (pairV x)[j]! := by
  have : j = 0 ∨ j = 1 := by omega
  rcases this with rfl | rfl <;> rfl
/-- The row, anew: in the worlds that the sort passes through. -/
theorem rel_sort {o : Nat} {l : List (Int × Int)} (h : Rel E M m w (zD [(o, ⟨l.map pairD, 2, false⟩)])) {b s : Nat} (hb : m o = some (b, s)) (l' : List (Int × Int)) (hl : l'.length = l.length) (n : Nat) (os : Array Obj) :
    Rel E M m (sortWorldK pairV 2 w b 0 n l'.toArray os) (zD [(o, ⟨l'.map pairD, 2, false⟩)]) := by
  unfold sortWorldK putRowK putRow
  refine Rel.grow ?_ os
  have h1 := h.ahead n
  have hg : zD [(o, ⟨l.map pairD, 2, false⟩)] o = some ⟨l.map pairD, 2, false⟩ := by simp [zD, eqb_iff.2 rfl]
  obtain ⟨b1, s1, c, t, q1, q2, q3, q4⟩ := h1.ro.at_ o _ hg
  rw [hb] at q1; cases q1
  rw [mapBlock_setRow q2]
  have hsz : l.length * 2 ≤ c.size := by have := q4.1; simpa using this
  have k := Rel.set (ob' := ⟨l'.map pairD, 2, false⟩) h1 hg rfl hb q2 (c' := putCells id 0 (flatK pairV 2 l'.toArray) c) (by simp [putCells]) ⟨by simp [putCells]; omega, fun i d hd => by
    simp only [List.getElem?_map, Option.map_eq_some_iff] at hd
    obtain ⟨x, hx, rfl⟩ := hd
    have hi : i < l'.length := (List.getElem?_eq_some_iff.1 hx).1
    have hx' : l'[i] = x := (List.getElem?_eq_some_iff.1 hx).2
    refine ⟨_, pairD_rep x, rfl, fun j y hy => ?_⟩
    have hj : j < 2 := by
      rcases Nat.lt_or_ge j 2 with hh | hh
      · exact hh
      · rw [Array.getElem?_eq_none (by simpa [Value.cells, pairV] using hh)] at hy; cases hy
    rw [pair_cell hj] at hy
    cases hy
    have hlt : i * 2 + j < c.size := by omega
    simp only [putCells, Array.getElem?_mapIdx, Array.getElem?_eq_getElem hlt, Option.map_some, size_flatK, List.size_toArray, Nat.zero_le, Nat.zero_add, true_and, Nat.sub_zero]
    rw [if_pos (by omega), flat_get l' hi hj, hx']
    rfl⟩
  have e : (fun x => if x = o then some (⟨l'.map pairD, 2, false⟩ : Ob) else zD [(o, ⟨l.map pairD, 2, false⟩)] x) = zD [(o, ⟨l'.map pairD, 2, false⟩)] := by
    funext x
    by_cases hx : x = o
    · subst hx; simp [zD, eqb_iff.2 rfl]
    · have : eqb o x = false := eqb_false.2 (fun e => hx e.symm)
      simp [zD, this, hx]
  rw [e] at k
  exact k
/-- .. held. -/
theorem holds_row {o : Nat} {l : List (Int × Int)} (h : Rel E M m w (zD [(o, ⟨l.map pairD, 2, false⟩)])) {b s : Nat} (hb : m o = some (b, s)) : HoldsK pairV 2 w b 0 l.toArray ∧ b < w.heap.size := by
  have hg : zD [(o, ⟨l.map pairD, 2, false⟩)] o = some ⟨l.map pairD, 2, false⟩ := by simp [zD, eqb_iff.2 rfl]
  obtain ⟨b1, s1, c, t, q1, q2, q3, q4⟩ := h.ro.at_ o _ hg
  rw [hb] at q1; cases q1
  refine ⟨fun p hp => ?_, (Array.getElem?_eq_some_iff.1 q2).1⟩
  simp only [size_flatK, List.size_toArray] at hp
  have hi : p / 2 < l.length := by omega
  have hj : p % 2 < 2 := by omega
  have hp' : p = p / 2 * 2 + p % 2 := by omega
  obtain ⟨u, u1, u2, u3⟩ := q4.2 (p / 2) (pairD l[p / 2]) (by simp [List.getElem?_map, List.getElem?_eq_getElem hi])
  rw [pairD_inv u1] at u3
  have hc := u3 (p % 2) _ (pair_cell hj)
  simp only [] at hc
  rw [← hp'] at hc
  have hf : (flatK pairV 2 l.toArray)[p]! = (pairV l[p / 2])[p % 2]! := by
    have := flat_get l hi hj
    rwa [← hp'] at this
  constructor
  · simp only [World.cell?, q2, Option.isSome_none, Bool.false_eq_true, if_false, Nat.zero_add, hc, hf, id]
  · simp [World.frozen?, q2]
end
end Go.VS

