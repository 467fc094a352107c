/- Nothing of a statement is proved in this text alone: it is part 3 of the proof's own tools, an evaluator of the code over deep values, its soundness, and what it makes of this seat's functions. Conditions: none beyond the statement's own. -/
import Derived.Test.YtbndhgnkgoggmaaDoorVsCardR2
set_option linter.unusedSimpArgs false
set_option linter.unusedVariables false
namespace Go.VS
open Go Go.Proofs
set_option maxHeartbeats 0
set_option linter.unusedSimpArgs false

theorem t63' (p : Paper) (s : Int) : (lim cfg).pure 63 [zt p, I s] = some (B (zw p s)) := t63 _ _ _ _ _ _ _ s
theorem t64' (x : Int) : (lim cfg).pure 64 [I x] = some (B (isAxis x)) := t64 x
def namedF (p : Paper) (ax : Int) (ss : List Int) : Int := if ss.all (zw p) && isAxis ax then 0 else 1
def possibleF (p : Paper) : Bool := (clashA p 0).isNone && (clashA p 1).isNone
def zO (p : Paper) (ax : Int) (ss : List Int) : Int := if zn p then (if possibleF p then namedF p ax ss else 31) else 30

noncomputable def lp95_2 : Code := zz [1, 0, 1, 0, 0] (zo Tryd.f95)
theorem lk95_2 : cfg.keep 95 (zr lp95_2) = [1, 3, 9, 10, 11] := by kernel_rfl

theorem L95_2 {F : Exit → St → Option D} (p : Paper) (ax : Int) (nl : Bool) (ss : List Int) (k : List Kt) (x : D) (sz : Nat) (hsz : nl = false → sz = 1) (hnl : nl = true → ss = []) (hlen : ss.length ≤ 9223372036854775807) (hk : ∀ st, get st.tmps 6 = I 1 → zB cfg (lim cfg) 95 F k .ret st = some (I 1)) : ∀ (rest : List Int) (i : Nat), ss.drop i = rest → i ≤ ss.length →
    (rest.all (zw p) = true → zB cfg (lim cfg) 95 F k (.exit 0) ⟨23, [(12, B false), (1, I ax), (3, .lref 0 0 3 0), (9, .sl nl (ss.map I) sz none), (10, I ss.length), (11, I (ss.length : Nat))], [(0, ⟨[zt p], 3, false⟩)], 1, 0⟩ = some x) →
    (rest.all (zw p) = false → x = I 1) →
    EvL cfg (lim cfg) 95 F lp95_2 k ⟨23, [(1, I ax), (3, .lref 0 0 3 0), (9, .sl nl (ss.map I) sz none), (10, I ss.length), (11, I (i : Nat))], [(0, ⟨[zt p], 3, false⟩)], 1, 0⟩ = some x := by
  intro rest
  induction rest with
  | nil =>
    intro i hd hi h h'
    have hi' : i = ss.length := by
      have := List.drop_eq_nil_iff.1 hd
      omega
    subst hi'
    refine zk ?_
    try dsimp only [lp95_2, zz, zo, Tryd.f95]
    simp only [bW, if_true, Nat.reduceEqDiff, if_false]
    repeat' first
      | (intro hb; first | cases hb | skip)
      | ((first | apply z8 | apply ze)
         · rfl
         · simp (disch := assumption) only [go_sem, Nat.reduceEqDiff, Nat.reduceAdd, bP, zf, Nat.reduceLeDiff, Nat.reduceLT, Nat.reduceMul, List.length_append, decide_eq_true_eq, z9, z6, Int.reduceToNat, Int.reduceLE, Int.reduceLT, Int.reduceBNe, Int.reduceBEq, Int.lt_irrefl]
           rfl
         · simp only [go_sem, Nat.reduceLT, Nat.reduceEqDiff]
           rfl
         · rfl
         first
         | (apply zd
            · simp only [z5, z0, Nat.reduceLT, decide_true, cond_true, ins]
              rfl
            · simp only [z5, z0, Nat.reduceLT, decide_true, cond_true, ins]
              rfl)
         | (apply zh
            · simp only [z5, z0, Nat.reduceLT, decide_true, cond_true, ins]
              rfl))
      | ((first | apply zb | apply zc)
         · rfl
         · simp only [z5, z0, Nat.reduceLT, decide_true, cond_true, ins]
           rfl)
      | (apply za
         · simp only [go_sem, Nat.reduceEqDiff])
      | (apply z7
         · simp only [go_sem, Nat.reduceEqDiff])
      | (apply zg
         · kernel_rfl
         · kernel_rfl)
      | (simp only [bW, if_true, Nat.reduceEqDiff, if_false])
    exact h rfl
  | cons m rest ih =>
    intro i hd hi h h'
    have hlt : i < ss.length := by
      rcases Nat.lt_or_ge i ss.length with h | h
      · exact h
      · rw [List.drop_eq_nil_of_le h] at hd; cases hd
    have hm : ss[i]? = some m := by rw [← List.head?_drop, hd]; rfl
    have hx : (ss.map I)[i]? = some (I m) := by rw [List.getElem?_map, hm]; rfl
    have hnm : nl = false := by
      cases h : nl with
      | false => rfl
      | true => rw [hnl h] at hlt; cases hlt
    have hsz1 := hsz hnm
    clear hsz
    subst hsz1
    have hlt' : (i : Int) < (ss.length : Int) := by omega
    have hw3 : IntKind.i64.wrap ((i : Int) + 1) = ((i + 1 : Nat) : Int) := by rw [wrap_i64 (by omega) (by omega)]; omega
    cases hs : zw p m with
    | true =>
      simp only [List.all_cons, hs, Bool.true_and] at h h'
      refine zk ?_
      try dsimp only [lp95_2, zz, zo, Tryd.f95]
      simp only [bW, if_true, Nat.reduceEqDiff, if_false]
      repeat' first
        | (intro hb; first | cases hb | skip)
        | ((first | apply z8 | apply ze)
           · rfl
           · simp (disch := assumption) only [go_sem, Nat.reduceEqDiff, Nat.reduceAdd, bP, zf, Nat.reduceLeDiff, Nat.reduceLT, Nat.reduceMul, List.length_append, decide_eq_true_eq, z9, z6, Int.reduceToNat, Int.reduceLE, Int.reduceLT, Int.reduceBNe, Int.reduceBEq, hx, hnm, hlt', hw3, t63', hs]
             rfl
           · simp only [go_sem, Nat.reduceLT, Nat.reduceEqDiff]
             rfl
           · rfl
           first
           | (apply zd
              · simp only [z5, z0, Nat.reduceLT, decide_true, cond_true, ins]
                rfl
              · simp only [z5, z0, Nat.reduceLT, decide_true, cond_true, ins]
                rfl)
           | (apply zh
              · simp only [z5, z0, Nat.reduceLT, decide_true, cond_true, ins]
                rfl))
        | ((first | apply zb | apply zc)
           · rfl
           · simp only [z5, z0, Nat.reduceLT, decide_true, cond_true, ins]
             rfl)
        | (apply za
           · simp only [go_sem, Nat.reduceEqDiff])
        | (apply z7
           · simp only [go_sem, Nat.reduceEqDiff])
        | (apply zg
           · kernel_rfl
           · kernel_rfl)
        | (simp only [bW, if_true, Nat.reduceEqDiff, if_false])
      exact zu (st1 := ⟨23, [(1, I ax), (3, .lref 0 0 3 0), (9, .sl nl (ss.map I) 1 none), (10, I ss.length), (11, I (i + 1 : Nat))], [(0, ⟨[zt p], 3, false⟩)], 1, 0⟩) lk95_2 (by kernel_rfl) (ih (i + 1) (by rw [← List.drop_drop, hd]; rfl) hlt h h')
    | false =>
      rw [h' (by simp [hs])]
      refine zk ?_
      try dsimp only [lp95_2, zz, zo, Tryd.f95]
      simp only [bW, if_true, Nat.reduceEqDiff, if_false]
      repeat' first
        | (intro hb; first | cases hb | skip)
        | ((first | apply z8 | apply ze)
           · rfl
           · simp (disch := assumption) only [go_sem, Nat.reduceEqDiff, Nat.reduceAdd, bP, zf, Nat.reduceLeDiff, Nat.reduceLT, Nat.reduceMul, List.length_append, decide_eq_true_eq, z9, z6, Int.reduceToNat, Int.reduceLE, Int.reduceLT, Int.reduceBNe, Int.reduceBEq, hx, hnm, hlt', hw3, t63', hs]
             rfl
           · simp only [go_sem, Nat.reduceLT, Nat.reduceEqDiff]
             rfl
           · rfl
           first
           | (apply zd
              · simp only [z5, z0, Nat.reduceLT, decide_true, cond_true, ins]
                rfl
              · simp only [z5, z0, Nat.reduceLT, decide_true, cond_true, ins]
                rfl)
           | (apply zh
              · simp only [z5, z0, Nat.reduceLT, decide_true, cond_true, ins]
                rfl))
        | ((first | apply zb | apply zc)
           · rfl
           · simp only [z5, z0, Nat.reduceLT, decide_true, cond_true, ins]
             rfl)
        | (apply za
           · simp only [go_sem, Nat.reduceEqDiff])
        | (apply z7
           · simp only [go_sem, Nat.reduceEqDiff])
        | (apply zg
           · kernel_rfl
           · kernel_rfl)
        | (simp only [bW, if_true, Nat.reduceEqDiff, if_false])
      exact hk _ rfl
theorem t95 (p : Paper) (ax : Int) (nl : Bool) (ss : List Int) (sz : Nat) (hsz : nl = false → sz = 1) (hnl : nl = true → ss = []) (hlen : ss.length ≤ 9223372036854775807) : (lim cfg).pure 95 [zt p, I ax, .sl nl (ss.map I) sz none] = some (I (namedF p ax ss)) := by
  have hls := len_if (f := I) hnl
  refine zm (zj 95) cfn95 rfl (n := 23) rfl ?_
  generalize hF : finP cfg Tryd.f95 = F
  simp only [bW, if_true, Nat.reduceEqDiff, if_false, zl]
  repeat' first
    | (intro hb; first | cases hb | skip)
    | ((first | apply z8 | apply ze)
       · rfl
       · simp (disch := assumption) only [go_sem, Nat.reduceEqDiff, Nat.reduceAdd, bP, zf, Nat.reduceLeDiff, Nat.reduceLT, Nat.reduceMul, List.length_append, decide_eq_true_eq, z9, z6, Int.reduceToNat, Int.reduceLE, Int.reduceLT, Int.reduceBNe, Int.reduceBEq, hls]
         rfl
       · simp only [go_sem, Nat.reduceLT, Nat.reduceEqDiff]
         rfl
       · rfl
       first
       | (apply zd
          · simp only [z5, z0, Nat.reduceLT, decide_true, cond_true, ins]
            rfl
          · simp only [z5, z0, Nat.reduceLT, decide_true, cond_true, ins]
            rfl)
       | (apply zh
          · simp only [z5, z0, Nat.reduceLT, decide_true, cond_true, ins]
            rfl))
    | ((first | apply zb | apply zc)
       · rfl
       · simp only [z5, z0, Nat.reduceLT, decide_true, cond_true, ins]
         rfl)
    | (apply za
       · simp only [go_sem, Nat.reduceEqDiff])
    | (apply z7
       · simp only [go_sem, Nat.reduceEqDiff])
    | (apply zg
       · kernel_rfl
       · kernel_rfl)
    | (simp only [bW, if_true, Nat.reduceEqDiff, if_false])
  have hend : ∀ v st, get st.tmps 6 = I v → F .ret st = some (I v) := by
    intro v st hd
    subst hF
    simp only [go_sem, Nat.reduceEqDiff, bP, Nat.reduceAdd, Nat.reduceLeDiff, List.length_map, Tryd.f95, hd]
  refine zS (st1 := ⟨23, [(1, I ax), (3, .lref 0 0 3 0), (9, .sl nl (ss.map I) sz none), (10, I ss.length), (11, I (0 : Nat))], [(0, ⟨[zt p], 3, false⟩)], 1, 0⟩) lk95_2 (by kernel_rfl) (L95_2 p ax nl ss _ _ sz hsz hnl hlen (fun st hd => ?_) ss 0 rfl (Nat.zero_le _) (fun ha => ?_) (fun ha => ?_))
  · simp only [bW, if_true, Nat.reduceEqDiff, if_false]
    exact hend 1 st hd
  · cases hax : isAxis ax with
    | true =>
      rw [show namedF p ax ss = 0 by simp [namedF, ha, hax]]
      simp only [bW, if_true, Nat.reduceEqDiff, if_false]
      repeat' first
        | (intro hb; first | cases hb | skip)
        | ((first | apply z8 | apply ze)
           · rfl
           · simp (disch := assumption) only [go_sem, Nat.reduceEqDiff, Nat.reduceAdd, bP, zf, Nat.reduceLeDiff, Nat.reduceLT, Nat.reduceMul, List.length_append, decide_eq_true_eq, z9, z6, Int.reduceToNat, Int.reduceLE, Int.reduceLT, Int.reduceBNe, Int.reduceBEq, t64', hax]
             rfl
           · simp only [go_sem, Nat.reduceLT, Nat.reduceEqDiff]
             rfl
           · rfl
           first
           | (apply zd
              · simp only [z5, z0, Nat.reduceLT, decide_true, cond_true, ins]
                rfl
              · simp only [z5, z0, Nat.reduceLT, decide_true, cond_true, ins]
                rfl)
           | (apply zh
              · simp only [z5, z0, Nat.reduceLT, decide_true, cond_true, ins]
                rfl))
        | ((first | apply zb | apply zc)
           · rfl
           · simp only [z5, z0, Nat.reduceLT, decide_true, cond_true, ins]
             rfl)
        | (apply za
           · simp only [go_sem, Nat.reduceEqDiff])
        | (apply z7
           · simp only [go_sem, Nat.reduceEqDiff])
        | (apply zg
           · kernel_rfl
           · kernel_rfl)
        | (simp only [bW, if_true, Nat.reduceEqDiff, if_false])
      exact hend 0 _ rfl
    | false =>
      rw [show namedF p ax ss = 1 by simp [namedF, ha, hax]]
      simp only [bW, if_true, Nat.reduceEqDiff, if_false]
      repeat' first
        | (intro hb; first | cases hb | skip)
        | ((first | apply z8 | apply ze)
           · rfl
           · simp (disch := assumption) only [go_sem, Nat.reduceEqDiff, Nat.reduceAdd, bP, zf, Nat.reduceLeDiff, Nat.reduceLT, Nat.reduceMul, List.length_append, decide_eq_true_eq, z9, z6, Int.reduceToNat, Int.reduceLE, Int.reduceLT, Int.reduceBNe, Int.reduceBEq, t64', hax]
             rfl
           · simp only [go_sem, Nat.reduceLT, Nat.reduceEqDiff]
             rfl
           · rfl
           first
           | (apply zd
              · simp only [z5, z0, Nat.reduceLT, decide_true, cond_true, ins]
                rfl
              · simp only [z5, z0, Nat.reduceLT, decide_true, cond_true, ins]
                rfl)
           | (apply zh
              · simp only [z5, z0, Nat.reduceLT, decide_true, cond_true, ins]
                rfl))
        | ((first | apply zb | apply zc)
           · rfl
           · simp only [z5, z0, Nat.reduceLT, decide_true, cond_true, ins]
             rfl)
        | (apply za
           · simp only [go_sem, Nat.reduceEqDiff])
        | (apply z7
           · simp only [go_sem, Nat.reduceEqDiff])
        | (apply zg
           · kernel_rfl
           · kernel_rfl)
        | (simp only [bW, if_true, Nat.reduceEqDiff, if_false])
      exact hend 1 _ rfl
  · rw [show namedF p ax ss = 1 by simp [namedF, ha]]
theorem t79' (p : Paper) (hwf : p.wf) (hok : zn p = true) : (lim cfg).pure 79 [zt p] = some (B (possibleF p)) := t79 p hwf hok
theorem t71 (p : Paper) (ax : Int) (nl : Bool) (ss : List Int) (hwf : p.wf) (sz : Nat) (hsz : nl = false → sz = 1) (hnl : nl = true → ss = []) (hlen : ss.length ≤ 9223372036854775807) : (lim cfg).pure 71 [zt p, I ax, .sl nl (ss.map I) sz none] = some (I (zO p ax ss)) := by
  have h15 := t15 p hwf
  have h95 := t95 p ax nl ss sz hsz hnl hlen
  unfold zO
  unfold check at h15
  cases hok : zn p with
  | false =>
    rw [hok] at h15
    simp only [Bool.false_eq_true, if_false] at h15 ⊢
    refine zm (zj 71) cfn71 rfl (n := 20) rfl ?_
    simp only [bW, if_true, Nat.reduceEqDiff, if_false, zl]
    repeat' first
      | (intro hb; first | cases hb | skip)
      | ((first | apply z8 | apply ze)
         · rfl
         · simp (disch := assumption) only [go_sem, Nat.reduceEqDiff, Nat.reduceAdd, bP, zf, Nat.reduceLeDiff, Nat.reduceLT, Nat.reduceMul, List.length_append, decide_eq_true_eq, z9, z6, Int.reduceToNat, Int.reduceLE, Int.reduceLT, Int.reduceBNe, Int.reduceBEq, h15]
           rfl
         · simp only [go_sem, Nat.reduceLT, Nat.reduceEqDiff]
           rfl
         · rfl
         first
         | (apply zd
            · simp only [z5, z0, Nat.reduceLT, decide_true, cond_true, ins]
              rfl
            · simp only [z5, z0, Nat.reduceLT, decide_true, cond_true, ins]
              rfl)
         | (apply zh
            · simp only [z5, z0, Nat.reduceLT, decide_true, cond_true, ins]
              rfl))
      | ((first | apply zb | apply zc)
         · rfl
         · simp only [z5, z0, Nat.reduceLT, decide_true, cond_true, ins]
           rfl)
      | (apply za
         · simp only [go_sem, Nat.reduceEqDiff])
      | (apply z7
         · simp only [go_sem, Nat.reduceEqDiff])
      | (apply zg
         · kernel_rfl
         · kernel_rfl)
      | (simp only [bW, if_true, Nat.reduceEqDiff, if_false])
    all_goals simp only [go_sem, Nat.reduceEqDiff, bP, Nat.reduceAdd, Nat.reduceLeDiff, List.length_map, Tryd.f71]
    all_goals first | done | rfl | (simp_all []; done) | trace_state
  | true =>
    rw [hok] at h15
    simp only [if_true] at h15 ⊢
    have h79 := t79' p hwf hok
    cases hp : possibleF p with
    | false =>
      rw [hp] at h79
      simp only [Bool.false_eq_true, if_false]
      refine zm (zj 71) cfn71 rfl (n := 20) rfl ?_
      simp only [bW, if_true, Nat.reduceEqDiff, if_false, zl]
      repeat' first
        | (intro hb; first | cases hb | skip)
        | ((first | apply z8 | apply ze)
           · rfl
           · simp (disch := assumption) only [go_sem, Nat.reduceEqDiff, Nat.reduceAdd, bP, zf, Nat.reduceLeDiff, Nat.reduceLT, Nat.reduceMul, List.length_append, decide_eq_true_eq, z9, z6, Int.reduceToNat, Int.reduceLE, Int.reduceLT, Int.reduceBNe, Int.reduceBEq, h15, h79]
             rfl
           · simp only [go_sem, Nat.reduceLT, Nat.reduceEqDiff]
             rfl
           · rfl
           first
           | (apply zd
              · simp only [z5, z0, Nat.reduceLT, decide_true, cond_true, ins]
                rfl
              · simp only [z5, z0, Nat.reduceLT, decide_true, cond_true, ins]
                rfl)
           | (apply zh
              · simp only [z5, z0, Nat.reduceLT, decide_true, cond_true, ins]
                rfl))
        | ((first | apply zb | apply zc)
           · rfl
           · simp only [z5, z0, Nat.reduceLT, decide_true, cond_true, ins]
             rfl)
        | (apply za
           · simp only [go_sem, Nat.reduceEqDiff])
        | (apply z7
           · simp only [go_sem, Nat.reduceEqDiff])
        | (apply zg
           · kernel_rfl
           · kernel_rfl)
        | (simp only [bW, if_true, Nat.reduceEqDiff, if_false])
      all_goals simp only [go_sem, Nat.reduceEqDiff, bP, Nat.reduceAdd, Nat.reduceLeDiff, List.length_map, Tryd.f71]
      all_goals first | done | rfl | (simp_all []; done) | trace_state
    | true =>
      rw [hp] at h79
      simp only [if_true]
      refine zm (zj 71) cfn71 rfl (n := 20) rfl ?_
      simp only [bW, if_true, Nat.reduceEqDiff, if_false, zl]
      repeat' first
        | (intro hb; first | cases hb | skip)
        | ((first | apply z8 | apply ze)
           · rfl
           · simp (disch := assumption) only [go_sem, Nat.reduceEqDiff, Nat.reduceAdd, bP, zf, Nat.reduceLeDiff, Nat.reduceLT, Nat.reduceMul, List.length_append, decide_eq_true_eq, z9, z6, Int.reduceToNat, Int.reduceLE, Int.reduceLT, Int.reduceBNe, Int.reduceBEq, h15, h79, h95]
             rfl
           · simp only [go_sem, Nat.reduceLT, Nat.reduceEqDiff]
             rfl
           · rfl
           first
           | (apply zd
              · simp only [z5, z0, Nat.reduceLT, decide_true, cond_true, ins]
                rfl
              · simp only [z5, z0, Nat.reduceLT, decide_true, cond_true, ins]
                rfl)
           | (apply zh
              · simp only [z5, z0, Nat.reduceLT, decide_true, cond_true, ins]
                rfl))
        | ((first | apply zb | apply zc)
           · rfl
           · simp only [z5, z0, Nat.reduceLT, decide_true, cond_true, ins]
             rfl)
        | (apply za
           · simp only [go_sem, Nat.reduceEqDiff])
        | (apply z7
           · simp only [go_sem, Nat.reduceEqDiff])
        | (apply zg
           · kernel_rfl
           · kernel_rfl)
        | (simp only [bW, if_true, Nat.reduceEqDiff, if_false])
      all_goals simp only [go_sem, Nat.reduceEqDiff, bP, Nat.reduceAdd, Nat.reduceLeDiff, List.length_map, Tryd.f71]
      all_goals first | done | rfl | (simp_all []; done) | trace_state

def downO (p : Paper) (s ax : Int) : Option Chn := ((zI (zA p ax) (1 + s).toNat 4)[0]?).join
def upO (p : Paper) (s ax : Int) : Option Chn := ((zI (zA p ax) 0 4)[(1 + s).toNat]?).join
def chnOr (o : Option Chn) : Chn := match o with | some c => c | none => ⟨⟨1, 1⟩, []⟩
def downF (p : Paper) (s ax : Int) : Chn := chnOr (downO p s ax)
def upF (p : Paper) (s ax : Int) : Chn := chnOr (upO p s ax)

/-! ### what an edge leads to is there -/
def isS (l : Net) (j : Nat) : Prop := ∃ c, l[j]? = some (some c)
theorem isS_put {l : Net} {j i : Nat} {c : Chn} (h : isS l j) : isS (putE l i c) j := by
  obtain ⟨d, hd⟩ := h
  have key : ∃ c', (l.set i (some c))[j]? = some (some c') := by
    by_cases e : i = j
    · subst e; exact ⟨c, by rw [List.getElem?_set]; simp; rw [List.getElem?_eq_some_iff] at hd; exact hd.1⟩
    · exact ⟨d, by rw [List.getElem?_set_ne e]; exact hd⟩
  unfold putE
  split
  · split
    · exact key
    · exact ⟨d, hd⟩
  · exact key
theorem isS_putE {l : Net} {i : Nat} {c : Chn} (h : i < l.length) : isS (putE l i c) i := by
  have key : ∃ c', (l.set i (some c))[i]? = some (some c') := ⟨c, by rw [List.getElem?_set]; simp [h]⟩
  unfold putE
  split
  · rename_i b hb
    split
    · exact key
    · exact ⟨b, hb⟩
  · exact key
theorem isS_step {now l : Net} {e : Edge} {j : Nat} (h : isS l j) : isS (stepE now l e) j := by
  unfold stepE
  split
  · exact isS_put h
  · exact h
theorem isS_fold {now : Net} {j : Nat} : ∀ {es : List Edge} {l : Net}, isS l j → isS (es.foldl (stepE now) l) j
  | [], _, h => h
  | e :: es, l, h => isS_fold (es := es) (isS_step h)
theorem len_put {l : Net} {i : Nat} {c : Chn} : (putE l i c).length = l.length := by
  unfold putE; split <;> (try split) <;> simp
theorem len_step {now l : Net} {e : Edge} : (stepE now l e).length = l.length := by
  unfold stepE; split
  · exact len_put
  · rfl
theorem isS_of_edge {now : Net} {e : Edge} : ∀ {es : List Edge} {l : Net}, e ∈ es → isS now e.src.toNat → e.dst.toNat < l.length → isS (es.foldl (stepE now) l) e.dst.toNat
  | [], _, h, _, _ => by cases h
  | e' :: es, l, h, hs, hl => by
    rcases List.mem_cons.1 h with rfl | h
    · refine isS_fold (es := es) ?_
      obtain ⟨c, hc⟩ := hs
      unfold stepE; rw [hc]
      exact isS_putE hl
    · exact isS_of_edge (es := es) h hs (by rw [len_step]; exact hl)
theorem isS_merge {j : Nat} : ∀ {l : List (Option Chn)} {i : Nat} {out : Net}, isS out j → isS (mergeL l i out) j
  | [], _, _, h => h
  | none :: r, i, out, h => isS_merge (l := r) h
  | some c :: r, i, out, h => isS_merge (l := r) (isS_put h)
theorem isS_mergeL {j : Nat} {c : Chn} : ∀ {l : List (Option Chn)} {i : Nat} {out : Net}, l[j]? = some (some c) → i + j < out.length → isS (mergeL l i out) (i + j)
  | [], _, _, h, _ => by simp at h
  | o :: r, i, out, h, hl => by
    cases j with
    | zero =>
      simp at h; subst h
      exact isS_merge (l := r) (isS_putE hl)
    | succ j =>
      simp at h
      cases o with
      | none => simp only [mergeL]; rw [show i + (j + 1) = (i + 1) + j by omega]; exact isS_mergeL (l := r) h (by omega)
      | some d => simp only [mergeL]; rw [show i + (j + 1) = (i + 1) + j by omega]; exact isS_mergeL (l := r) h (by rw [len_put]; omega)
theorem isS_rounds {es : List Edge} {j : Nat} : ∀ {k : Nat} {now out : Net}, isS out j → isS (roundsN es k now out) j
  | 0, _, _, h => h
  | k + 1, now, out, h => isS_rounds (k := k) (isS_merge h)
theorem chains_edge {es : List Edge} {e : Edge} {k : Nat} (he : e ∈ es) (hb : edgeB e) : isS (zI es e.src.toNat (k + 1)) e.dst.toNat := by
  unfold zI
  simp only [roundsN]
  refine isS_rounds ?_
  obtain ⟨b1, b2, b3, b4, _⟩ := hb
  have hs5 : e.src.toNat < zU.length := by show e.src.toNat < 5; omega
  have hd5 : e.dst.toNat < zU.length := by show e.dst.toNat < 5; omega
  obtain ⟨c, hc⟩ : isS (es.foldl (stepE (zU.set e.src.toNat (some ⟨⟨1, 1⟩, []⟩))) zU) e.dst.toNat :=
    isS_of_edge he ⟨_, List.getElem?_set_self hs5⟩ hd5
  have := isS_mergeL (i := 0) (out := zU) hc (by rw [Nat.zero_add]; exact hd5)
  rwa [Nat.zero_add] at this
theorem sheet_edge {p : Paper} {s : Int} (ax : Int) (hs : zw p s = true) : (⟨1 + s, 0, ⟨2, 1⟩, ⟨false, -1 - s, false⟩⟩ : Edge) ∈ zA p ax ∧ (⟨0, 1 + s, ⟨2, 1⟩, ⟨false, -1 - s, true⟩⟩ : Edge) ∈ zA p ax := by
  simp [zw] at hs
  obtain ⟨n, rfl⟩ := Int.eq_ofNat_of_zero_le hs.1
  have hmem : n ∈ List.range' 0 p.sheets.toNat := by rw [List.mem_range'_1]; omega
  simp only [zA, List.mem_append, List.mem_flatMap]
  exact ⟨.inl (.inl ⟨n, hmem, by simp [zJ]⟩), .inl (.inl ⟨n, hmem, by simp [zJ]⟩)⟩
theorem downO_some {p : Paper} {s : Int} (ax : Int) (hok : zn p = true) (hs : zw p s = true) : downO p s ax = some (downF p s ax) ∧ (zI (zA p ax) (1 + s).toNat 4)[0]? = some (some (downF p s ax)) := by
  obtain ⟨h1, h2⟩ := sheet_edge ax hs
  obtain ⟨c, hc⟩ := chains_edge (k := 3) h1 ((edgesB hok ax).1 _ h1)
  have hc' : (zI (zA p ax) (1 + s).toNat 4)[0]? = some (some c) := hc
  have e : downO p s ax = some c := by unfold downO; rw [hc']; rfl
  have e' : downF p s ax = c := by unfold downF; rw [e]; rfl
  rw [e', e]; exact ⟨rfl, hc'⟩
theorem upO_some {p : Paper} {s : Int} (ax : Int) (hok : zn p = true) (hs : zw p s = true) : upO p s ax = some (upF p s ax) ∧ (zI (zA p ax) 0 4)[(1 + s).toNat]? = some (some (upF p s ax)) := by
  obtain ⟨h1, h2⟩ := sheet_edge ax hs
  obtain ⟨c, hc⟩ := chains_edge (k := 3) h2 ((edgesB hok ax).1 _ h2)
  have hc' : (zI (zA p ax) 0 4)[(1 + s).toNat]? = some (some c) := hc
  have e : upO p s ax = some c := by unfold upO; rw [hc']; rfl
  have e' : upF p s ax = c := by unfold upF; rw [e]; rfl
  rw [e', e]; exact ⟨rfl, hc'⟩
theorem downF_qB {p : Paper} {s : Int} (ax : Int) (hok : zn p = true) (hs : zw p s = true) : qB 32000000000000000 5 (downF p s ax) :=
  (chainsF_netB (edgesB hok ax).1 (by omega)).2 _ (List.mem_of_getElem? (downO_some ax hok hs).2)
theorem upF_qB {p : Paper} {s : Int} (ax : Int) (hok : zn p = true) (hs : zw p s = true) : qB 32000000000000000 5 (upF p s ax) :=
  (chainsF_netB (edgesB hok ax).1 (by omega)).2 _ (List.mem_of_getElem? (upO_some ax hok hs).2)

theorem t100 (p : Paper) (s ax : Int) (hwf : p.wf) (hok : zn p = true) (hs : zw p s = true) : (lim cfg).pure 100 [zt p, I s, I ax] = some (zq (some (downF p s ax))) := by
  have h68 := t68 p ax hwf hok
  obtain ⟨o1, o2, _⟩ := zC hok
  obtain ⟨hes, hlen⟩ := edgesB hok ax
  have hc := (downO_some ax hok hs).2
  simp [zw] at hs
  obtain ⟨N, hN⟩ := Int.eq_ofNat_of_zero_le (show 0 ≤ 1 + s by omega)
  have hw : IntKind.i64.wrap (1 + s) = (N : Int) := by rw [wrap_i64 (by omega) (by omega), hN]
  have hN' : (1 + s).toNat = N := by rw [hN]; rfl
  rw [hN'] at hc
  have h72 := t72 (zA p ax) N 4 hes hlen (by omega) (by omega)
  have hnet : ((zI (zA p ax) N 4).map zq)[0]? = some (zq (some (downF p s ax))) := by rw [List.getElem?_map, hc]; rfl
  have hlt5 : (N < 5) = True := by simp; omega
  simp only [Int.cast_ofNat_Int] at h72
  refine zm (zj 100) cfn100 rfl (n := 14) rfl ?_
  generalize hF : finP cfg Tryd.f100 = F
  simp only [bW, if_true, Nat.reduceEqDiff, if_false, zl]
  repeat' first
    | (intro hb; first | cases hb | skip)
    | ((first | apply z8 | apply ze)
       · rfl
       · simp (disch := assumption) only [go_sem, Nat.reduceEqDiff, Nat.reduceAdd, bP, zf, Nat.reduceLeDiff, Nat.reduceLT, Nat.reduceMul, List.length_append, decide_eq_true_eq, z9, z6, Int.reduceToNat, Int.reduceLE, Int.reduceLT, Int.reduceBNe, Int.reduceBEq, h68, hw, h72, hnet, encOC_one, hlt5, show (0 : Nat) < 5 from by decide]
         rfl
       · simp only [go_sem, Nat.reduceLT, Nat.reduceEqDiff]
         rfl
       · rfl
       first
       | (apply zd
          · simp only [z5, z0, Nat.reduceLT, decide_true, cond_true, ins]
            rfl
          · simp only [z5, z0, Nat.reduceLT, decide_true, cond_true, ins]
            rfl)
       | (apply zh
          · simp only [z5, z0, Nat.reduceLT, decide_true, cond_true, ins]
            rfl))
    | ((first | apply zb | apply zc)
       · rfl
       · simp only [z5, z0, Nat.reduceLT, decide_true, cond_true, ins]
         rfl)
    | (apply za
       · simp only [go_sem, Nat.reduceEqDiff])
    | (apply z7
       · simp only [go_sem, Nat.reduceEqDiff])
    | (apply zg
       · kernel_rfl
       · kernel_rfl)
    | (simp only [bW, if_true, Nat.reduceEqDiff, if_false])
  subst hF
  simp only [go_sem, Nat.reduceEqDiff, bP, Nat.reduceAdd, Nat.reduceLeDiff, List.length_map, Tryd.f100, snap_enc]

theorem t101 (p : Paper) (s ax : Int) (hwf : p.wf) (hok : zn p = true) (hs : zw p s = true) : (lim cfg).pure 101 [zt p, I s, I ax] = some (zq (some (upF p s ax))) := by
  have h68 := t68 p ax hwf hok
  obtain ⟨o1, o2, _⟩ := zC hok
  obtain ⟨hes, hlen⟩ := edgesB hok ax
  have hc := (upO_some ax hok hs).2
  simp [zw] at hs
  obtain ⟨N, hN⟩ := Int.eq_ofNat_of_zero_le (show 0 ≤ 1 + s by omega)
  have hw : IntKind.i64.wrap (1 + s) = (N : Int) := by rw [wrap_i64 (by omega) (by omega), hN]
  have hN' : (1 + s).toNat = N := by rw [hN]; rfl
  rw [hN'] at hc
  have h72 := t72 (zA p ax) 0 4 hes hlen (by omega) (by omega)
  have hnet : ((zI (zA p ax) 0 4).map zq)[N]? = some (zq (some (upF p s ax))) := by rw [List.getElem?_map, hc]; rfl
  have hlt5 : (N < 5) = True := by simp; omega
  simp only [Int.cast_ofNat_Int] at h72
  refine zm (zj 101) cfn101 rfl (n := 14) rfl ?_
  generalize hF : finP cfg Tryd.f101 = F
  simp only [bW, if_true, Nat.reduceEqDiff, if_false, zl]
  repeat' first
    | (intro hb; first | cases hb | skip)
    | ((first | apply z8 | apply ze)
       · rfl
       · simp (disch := assumption) only [go_sem, Nat.reduceEqDiff, Nat.reduceAdd, bP, zf, Nat.reduceLeDiff, Nat.reduceLT, Nat.reduceMul, List.length_append, decide_eq_true_eq, z9, z6, Int.reduceToNat, Int.reduceLE, Int.reduceLT, Int.reduceBNe, Int.reduceBEq, h68, hw, h72, hnet, encOC_one, hlt5, show (0 : Nat) < 5 from by decide]
         rfl
       · simp only [go_sem, Nat.reduceLT, Nat.reduceEqDiff]
         rfl
       · rfl
       first
       | (apply zd
          · simp only [z5, z0, Nat.reduceLT, decide_true, cond_true, ins]
            rfl
          · simp only [z5, z0, Nat.reduceLT, decide_true, cond_true, ins]
            rfl)
       | (apply zh
          · simp only [z5, z0, Nat.reduceLT, decide_true, cond_true, ins]
            rfl))
    | ((first | apply zb | apply zc)
       · rfl
       · simp only [z5, z0, Nat.reduceLT, decide_true, cond_true, ins]
         rfl)
    | (apply za
       · simp only [go_sem, Nat.reduceEqDiff])
    | (apply z7
       · simp only [go_sem, Nat.reduceEqDiff])
    | (apply zg
       · kernel_rfl
       · kernel_rfl)
    | (simp only [bW, if_true, Nat.reduceEqDiff, if_false])
  subst hF
  simp only [go_sem, Nat.reduceEqDiff, bP, Nat.reduceAdd, Nat.reduceLeDiff, List.length_map, Tryd.f101, snap_enc]

end Go.VS
namespace Go.VS
open Go Go.Proofs
set_option maxHeartbeats 0
set_option linter.unusedSimpArgs false

structure F4 where
  xn : Int
  xd : Int
  yn : Int
  yd : Int
def zP (f : F4) : D := .agg [I f.xn, I f.xd, I f.yn, I f.yd]
theorem okF : EncOK 4 zP := ⟨fun _ _ _ => rfl, fun _ _ => rfl, fun _ _ _ => rfl, fun _ => ⟨rfl, rfl⟩⟩
theorem known_zero {p : Paper} {ax : Int} {ss : List Int} : zO p ax ss = 0 ↔ zn p = true ∧ possibleF p = true ∧ ss.all (zw p) = true ∧ isAxis ax = true := by
  unfold zO namedF
  cases zn p <;> cases possibleF p <;> cases ss.all (zw p) <;> cases isAxis ax <;> simp
def loF (p : Paper) (s ax : Int) : Ratio := ⟨(upF p s ax).q.d, (upF p s ax).q.n⟩
def hiF (p : Paper) (s ax : Int) : Ratio := (downF p s ax).q

theorem t73 (p : Paper) (s ax : Int) (hwf : p.wf) (hok : zn p = true) (hs : zw p s = true) : (lim cfg).pure 73 [zt p, I s, I ax] = some (.agg [I (loF p s ax).n, I (loF p s ax).d, I (hiF p s ax).n, I (hiF p s ax).d]) := by
  have h100 := t100 p s ax hwf hok hs
  have h101 := t101 p s ax hwf hok hs
  simp only [zq] at h100 h101
  refine zm (zj 73) cfn73 rfl (n := 23) rfl ?_
  simp only [bW, if_true, Nat.reduceEqDiff, if_false, zl]
  repeat' first
    | (intro hb; first | cases hb | skip)
    | ((first | apply z8 | apply ze)
       · rfl
       · simp (disch := assumption) only [go_sem, Nat.reduceEqDiff, Nat.reduceAdd, bP, zf, Nat.reduceLeDiff, Nat.reduceLT, Nat.reduceMul, List.length_append, decide_eq_true_eq, z9, z6, Int.reduceToNat, Int.reduceLE, Int.reduceLT, Int.reduceBNe, Int.reduceBEq, h100, h101, t97, whyD_one, zq]
         rfl
       · simp only [go_sem, Nat.reduceLT, Nat.reduceEqDiff]
         rfl
       · rfl
       first
       | (apply zd
          · simp only [z5, z0, Nat.reduceLT, decide_true, cond_true, ins]
            rfl
          · simp only [z5, z0, Nat.reduceLT, decide_true, cond_true, ins]
            rfl)
       | (apply zh
          · simp only [z5, z0, Nat.reduceLT, decide_true, cond_true, ins]
            rfl))
    | ((first | apply zb | apply zc)
       · rfl
       · simp only [z5, z0, Nat.reduceLT, decide_true, cond_true, ins]
         rfl)
    | (apply za
       · simp only [go_sem, Nat.reduceEqDiff])
    | (apply z7
       · simp only [go_sem, Nat.reduceEqDiff])
    | (apply zg
       · kernel_rfl
       · kernel_rfl)
    | (simp only [bW, if_true, Nat.reduceEqDiff, if_false])
  all_goals try simp only [go_sem, Nat.reduceEqDiff, bP, Nat.reduceAdd, Nat.reduceLeDiff, List.length_map, Tryd.f73]
  all_goals first | done | rfl | (simp_all []; done) | trace_state

theorem t20 (p : Paper) (s ax : Int) (hwf : p.wf) : (lim cfg).pure 20 [zt p, I s, I ax] = some (if zO p ax [s] = 0 then .tup [.agg [I (loF p s ax).n, I (loF p s ax).d], .agg [I (hiF p s ax).n, I (hiF p s ax).d], I 0] else .tup [.agg [I 0, I 0], .agg [I 0, I 0], I (zO p ax [s])]) := by
  have h71 := t71 p ax false [s] hwf 1 (by simp) (by simp) (by simp)
  simp only [List.map_cons, List.map_nil] at h71
  by_cases hk : zO p ax [s] = 0
  · rw [if_pos hk]
    rw [hk] at h71
    obtain ⟨hok, hp, hs, hax⟩ := known_zero.1 hk
    simp at hs
    have h73 := t73 p s ax hwf hok hs
    refine zm (zj 20) cfn20 rfl (n := 29) rfl ?_
    simp only [bW, if_true, Nat.reduceEqDiff, if_false, zl]
    repeat' first
      | (intro hb; first | cases hb | skip)
      | ((first | apply z8 | apply ze)
         · rfl
         · simp (disch := assumption) only [go_sem, Nat.reduceEqDiff, Nat.reduceAdd, bP, zf, Nat.reduceLeDiff, Nat.reduceLT, Nat.reduceMul, List.length_append, decide_eq_true_eq, z9, z6, Int.reduceToNat, Int.reduceLE, Int.reduceLT, Int.reduceBNe, Int.reduceBEq, h71, h73]
           rfl
         · simp only [go_sem, Nat.reduceLT, Nat.reduceEqDiff]
           rfl
         · rfl
         first
         | (apply zd
            · simp only [z5, z0, Nat.reduceLT, decide_true, cond_true, ins]
              rfl
            · simp only [z5, z0, Nat.reduceLT, decide_true, cond_true, ins]
              rfl)
         | (apply zh
            · simp only [z5, z0, Nat.reduceLT, decide_true, cond_true, ins]
              rfl))
      | ((first | apply zb | apply zc)
         · rfl
         · simp only [z5, z0, Nat.reduceLT, decide_true, cond_true, ins]
           rfl)
      | (apply za
         · simp only [go_sem, Nat.reduceEqDiff])
      | (apply z7
         · simp only [go_sem, Nat.reduceEqDiff])
      | (apply zg
         · kernel_rfl
         · kernel_rfl)
      | (simp only [bW, if_true, Nat.reduceEqDiff, if_false])
    all_goals try simp only [go_sem, Nat.reduceEqDiff, bP, Nat.reduceAdd, Nat.reduceLeDiff, List.length_map, Tryd.f20]
    all_goals first | done | rfl | (simp_all []; done) | trace_state
  · rw [if_neg hk]
    have hne : (zO p ax [s] != 0) = true := by simp [hk]
    refine zm (zj 20) cfn20 rfl (n := 29) rfl ?_
    simp only [bW, if_true, Nat.reduceEqDiff, if_false, zl]
    repeat' first
      | (intro hb; first | cases hb | skip)
      | ((first | apply z8 | apply ze)
         · rfl
         · simp (disch := assumption) only [go_sem, Nat.reduceEqDiff, Nat.reduceAdd, bP, zf, Nat.reduceLeDiff, Nat.reduceLT, Nat.reduceMul, List.length_append, decide_eq_true_eq, z9, z6, Int.reduceToNat, Int.reduceLE, Int.reduceLT, Int.reduceBNe, Int.reduceBEq, h71, hne]
           rfl
         · simp only [go_sem, Nat.reduceLT, Nat.reduceEqDiff]
           rfl
         · rfl
         first
         | (apply zd
            · simp only [z5, z0, Nat.reduceLT, decide_true, cond_true, ins]
              rfl
            · simp only [z5, z0, Nat.reduceLT, decide_true, cond_true, ins]
              rfl)
         | (apply zh
            · simp only [z5, z0, Nat.reduceLT, decide_true, cond_true, ins]
              rfl))
      | ((first | apply zb | apply zc)
         · rfl
         · simp only [z5, z0, Nat.reduceLT, decide_true, cond_true, ins]
           rfl)
      | (apply za
         · simp only [go_sem, Nat.reduceEqDiff])
      | (apply z7
         · simp only [go_sem, Nat.reduceEqDiff])
      | (apply zg
         · kernel_rfl
         · kernel_rfl)
      | (simp only [bW, if_true, Nat.reduceEqDiff, if_false])
    all_goals try simp only [go_sem, Nat.reduceEqDiff, bP, Nat.reduceAdd, Nat.reduceLeDiff, List.length_map, Tryd.f20]
    all_goals first | done | rfl | (simp_all []; done) | trace_state

theorem isS_fold2 {es : List Edge} {now : Net} {e : Edge} (he : e ∈ es) (hb : edgeB e) (hs : isS now e.src.toNat) : isS (es.foldl (stepE now) zU) e.dst.toNat :=
  isS_of_edge he hs (by show e.dst.toNat < 5; obtain ⟨b1, b2, b3, b4, _⟩ := hb; omega)
theorem merge_len : ∀ {l : List (Option Chn)} {i : Nat} {out : Net}, (mergeL l i out).length = out.length
  | [], _, _ => rfl
  | none :: r, i, out => merge_len (l := r)
  | some c :: r, i, out => by simp only [mergeL]; rw [merge_len (l := r), len_put]
theorem chains_edge2 {es : List Edge} {e e' : Edge} {k : Nat} (he : e ∈ es) (hb : edgeB e) (he' : e' ∈ es) (hb' : edgeB e') (h : e'.src = e.dst) : isS (zI es e.src.toNat (k + 2)) e'.dst.toNat := by
  unfold zI
  simp only [roundsN]
  refine isS_rounds ?_
  have hs5 : e.src.toNat < zU.length := by obtain ⟨b1, b2, b3, b4, _⟩ := hb; show e.src.toNat < 5; omega
  have hd5 : e'.dst.toNat < zU.length := by obtain ⟨b1, b2, b3, b4, _⟩ := hb'; show e'.dst.toNat < 5; omega
  have h1 := isS_fold2 he hb (now := zU.set e.src.toNat (some ⟨⟨1, 1⟩, []⟩)) ⟨_, List.getElem?_set_self hs5⟩
  rw [← h] at h1
  obtain ⟨c, hc⟩ := isS_fold2 he' hb' h1
  have := isS_mergeL (i := 0) (out := mergeL (es.foldl (stepE (zU.set e.src.toNat (some ⟨⟨1, 1⟩, []⟩))) zU) 0 zU) hc (by rw [Nat.zero_add, merge_len]; exact hd5)
  rwa [Nat.zero_add] at this
def betwF (p : Paper) (a b ax : Int) : Ratio := if a = b then one1 else (chnOr (((zI (zA p ax) (1 + a).toNat 4)[(1 + b).toNat]?).join)).q
theorem betw_some {p : Paper} {a b : Int} (ax : Int) (hok : zn p = true) (ha : zw p a = true) (hb : zw p b = true) (hab : a ≠ b) : ∃ c, (zI (zA p ax) (1 + a).toNat 4)[(1 + b).toNat]? = some (some c) ∧ betwF p a b ax = c.q ∧ qB 32000000000000000 5 c := by
  obtain ⟨h1, _⟩ := sheet_edge ax ha
  obtain ⟨_, h2⟩ := sheet_edge ax hb
  have hes := (edgesB hok ax).1
  obtain ⟨c, hc⟩ := chains_edge2 (k := 2) h1 (hes _ h1) h2 (hes _ h2) rfl
  have hc' : (zI (zA p ax) (1 + a).toNat 4)[(1 + b).toNat]? = some (some c) := hc
  refine ⟨c, hc', ?_, (chainsF_netB hes (by omega)).2 _ (List.mem_of_getElem? hc')⟩
  unfold betwF
  rw [if_neg hab, hc']; rfl
theorem t19 (p : Paper) (a b ax : Int) (hwf : p.wf) : (lim cfg).pure 19 [zt p, I a, I b, I ax] = some (if zO p ax [a, b] = 0 then .tup [.agg [I (betwF p a b ax).n, I (betwF p a b ax).d], I 0] else .tup [.agg [I 0, I 0], I (zO p ax [a, b])]) := by
  have h71 := t71 p ax false [a, b] hwf 1 (by simp) (by simp) (by simp)
  simp only [List.map_cons, List.map_nil] at h71
  by_cases hk : zO p ax [a, b] = 0
  · rw [if_pos hk]
    rw [hk] at h71
    obtain ⟨hok, hp, hs, hax⟩ := known_zero.1 hk
    simp at hs
    obtain ⟨o1, o2, _⟩ := zC hok
    by_cases hab : a = b
    · have heq : (a == b) = true := by simp [hab]
      rw [show betwF p a b ax = one1 by simp [betwF, hab]]
      refine zm (zj 19) cfn19 rfl (n := 37) rfl ?_
      simp only [bW, if_true, Nat.reduceEqDiff, if_false, zl]
      repeat' first
        | (intro hb; first | cases hb | skip)
        | ((first | apply z8 | apply ze)
           · rfl
           · simp (disch := assumption) only [go_sem, Nat.reduceEqDiff, Nat.reduceAdd, bP, zf, Nat.reduceLeDiff, Nat.reduceLT, Nat.reduceMul, List.length_append, decide_eq_true_eq, z9, z6, Int.reduceToNat, Int.reduceLE, Int.reduceLT, Int.reduceBNe, Int.reduceBEq, h71, heq, cfg_glob0]
             rfl
           · simp only [go_sem, Nat.reduceLT, Nat.reduceEqDiff]
             rfl
           · rfl
           first
           | (apply zd
              · simp only [z5, z0, Nat.reduceLT, decide_true, cond_true, ins]
                rfl
              · simp only [z5, z0, Nat.reduceLT, decide_true, cond_true, ins]
                rfl)
           | (apply zh
              · simp only [z5, z0, Nat.reduceLT, decide_true, cond_true, ins]
                rfl))
        | ((first | apply zb | apply zc)
           · rfl
           · simp only [z5, z0, Nat.reduceLT, decide_true, cond_true, ins]
             rfl)
        | (apply za
           · simp only [go_sem, Nat.reduceEqDiff])
        | (apply z7
           · simp only [go_sem, Nat.reduceEqDiff])
        | (apply zg
           · kernel_rfl
           · kernel_rfl)
        | (simp only [bW, if_true, Nat.reduceEqDiff, if_false])
      all_goals try simp only [go_sem, Nat.reduceEqDiff, bP, Nat.reduceAdd, Nat.reduceLeDiff, List.length_map, Tryd.f19]
      all_goals first | done | rfl | (simp_all []; done) | trace_state
    · have heq : (a == b) = false := by simp [hab]
      obtain ⟨c, hc, hcq, _⟩ := betw_some ax hok hs.1 hs.2 hab
      rw [hcq]
      have h68 := t68 p ax hwf hok
      obtain ⟨hes, hlen⟩ := edgesB hok ax
      have hsa := hs.1
      have hsb := hs.2
      simp [zw] at hsa hsb
      obtain ⟨A, hA⟩ := Int.eq_ofNat_of_zero_le (show 0 ≤ 1 + a by omega)
      obtain ⟨N, hN⟩ := Int.eq_ofNat_of_zero_le (show 0 ≤ 1 + b by omega)
      have hwa : IntKind.i64.wrap (1 + a) = (A : Int) := by rw [wrap_i64 (by omega) (by omega), hA]
      have hwb : IntKind.i64.wrap (1 + b) = (N : Int) := by rw [wrap_i64 (by omega) (by omega), hN]
      have hA' : (1 + a).toNat = A := by rw [hA]; rfl
      have hN' : (1 + b).toNat = N := by rw [hN]; rfl
      rw [hA', hN'] at hc
      have h72 := t72 (zA p ax) A 4 hes hlen (by omega) (by omega)
      have hnet : ((zI (zA p ax) A 4).map zq)[N]? = some (zq (some c)) := by rw [List.getElem?_map, hc]; rfl
      have hlt5 : (N < 5) = True := by simp; omega
      simp only [Int.cast_ofNat_Int] at h72
      refine zm (zj 19) cfn19 rfl (n := 37) rfl ?_
      simp only [bW, if_true, Nat.reduceEqDiff, if_false, zl]
      repeat' first
        | (intro hb; first | cases hb | skip)
        | ((first | apply z8 | apply ze)
           · rfl
           · simp (disch := assumption) only [go_sem, Nat.reduceEqDiff, Nat.reduceAdd, bP, zf, Nat.reduceLeDiff, Nat.reduceLT, Nat.reduceMul, List.length_append, decide_eq_true_eq, z9, z6, Int.reduceToNat, Int.reduceLE, Int.reduceLT, Int.reduceBNe, Int.reduceBEq, h71, heq, h68, hwa, hwb, h72, hnet, zq, whyD_one, encOC_one, hlt5]
             rfl
           · simp only [go_sem, Nat.reduceLT, Nat.reduceEqDiff]
             rfl
           · rfl
           first
           | (apply zd
              · simp only [z5, z0, Nat.reduceLT, decide_true, cond_true, ins]
                rfl
              · simp only [z5, z0, Nat.reduceLT, decide_true, cond_true, ins]
                rfl)
           | (apply zh
              · simp only [z5, z0, Nat.reduceLT, decide_true, cond_true, ins]
                rfl))
        | ((first | apply zb | apply zc)
           · rfl
           · simp only [z5, z0, Nat.reduceLT, decide_true, cond_true, ins]
             rfl)
        | (apply za
           · simp only [go_sem, Nat.reduceEqDiff])
        | (apply z7
           · simp only [go_sem, Nat.reduceEqDiff])
        | (apply zg
           · kernel_rfl
           · kernel_rfl)
        | (simp only [bW, if_true, Nat.reduceEqDiff, if_false])
      all_goals try simp only [go_sem, Nat.reduceEqDiff, bP, Nat.reduceAdd, Nat.reduceLeDiff, List.length_map, Tryd.f19]
      all_goals first | done | rfl | (simp_all []; done) | trace_state
  · rw [if_neg hk]
    have hne : (zO p ax [a, b] != 0) = true := by simp [hk]
    refine zm (zj 19) cfn19 rfl (n := 37) rfl ?_
    simp only [bW, if_true, Nat.reduceEqDiff, if_false, zl]
    repeat' first
      | (intro hb; first | cases hb | skip)
      | ((first | apply z8 | apply ze)
         · rfl
         · simp (disch := assumption) only [go_sem, Nat.reduceEqDiff, Nat.reduceAdd, bP, zf, Nat.reduceLeDiff, Nat.reduceLT, Nat.reduceMul, List.length_append, decide_eq_true_eq, z9, z6, Int.reduceToNat, Int.reduceLE, Int.reduceLT, Int.reduceBNe, Int.reduceBEq, h71, hne]
           rfl
         · simp only [go_sem, Nat.reduceLT, Nat.reduceEqDiff]
           rfl
         · rfl
         first
         | (apply zd
            · simp only [z5, z0, Nat.reduceLT, decide_true, cond_true, ins]
              rfl
            · simp only [z5, z0, Nat.reduceLT, decide_true, cond_true, ins]
              rfl)
         | (apply zh
            · simp only [z5, z0, Nat.reduceLT, decide_true, cond_true, ins]
              rfl))
      | ((first | apply zb | apply zc)
         · rfl
         · simp only [z5, z0, Nat.reduceLT, decide_true, cond_true, ins]
           rfl)
      | (apply za
         · simp only [go_sem, Nat.reduceEqDiff])
      | (apply z7
         · simp only [go_sem, Nat.reduceEqDiff])
      | (apply zg
         · kernel_rfl
         · kernel_rfl)
      | (simp only [bW, if_true, Nat.reduceEqDiff, if_false])
    all_goals try simp only [go_sem, Nat.reduceEqDiff, bP, Nat.reduceAdd, Nat.reduceLeDiff, List.length_map, Tryd.f19]
    all_goals first | done | rfl | (simp_all []; done) | trace_state

theorem t30 (p : Paper) (hwf : p.wf) : (lim cfg).pure 30 [zt p] = some (if zn p then .tup [B (possibleF p), I 0] else .tup [B false, I 30]) := by
  have h15 := t15 p hwf
  unfold check at h15
  cases hok : zn p with
  | false =>
    rw [hok] at h15
    simp only [Bool.false_eq_true, if_false] at h15 ⊢
    refine zm (zj 30) cfn30 rfl (n := 12) rfl ?_
    simp only [bW, if_true, Nat.reduceEqDiff, if_false, zl]
    repeat' first
      | (intro hb; first | cases hb | skip)
      | ((first | apply z8 | apply ze)
         · rfl
         · simp (disch := assumption) only [go_sem, Nat.reduceEqDiff, Nat.reduceAdd, bP, zf, Nat.reduceLeDiff, Nat.reduceLT, Nat.reduceMul, List.length_append, decide_eq_true_eq, z9, z6, Int.reduceToNat, Int.reduceLE, Int.reduceLT, Int.reduceBNe, Int.reduceBEq, h15]
           rfl
         · simp only [go_sem, Nat.reduceLT, Nat.reduceEqDiff]
           rfl
         · rfl
         first
         | (apply zd
            · simp only [z5, z0, Nat.reduceLT, decide_true, cond_true, ins]
              rfl
            · simp only [z5, z0, Nat.reduceLT, decide_true, cond_true, ins]
              rfl)
         | (apply zh
            · simp only [z5, z0, Nat.reduceLT, decide_true, cond_true, ins]
              rfl))
      | ((first | apply zb | apply zc)
         · rfl
         · simp only [z5, z0, Nat.reduceLT, decide_true, cond_true, ins]
           rfl)
      | (apply za
         · simp only [go_sem, Nat.reduceEqDiff])
      | (apply z7
         · simp only [go_sem, Nat.reduceEqDiff])
      | (apply zg
         · kernel_rfl
         · kernel_rfl)
      | (simp only [bW, if_true, Nat.reduceEqDiff, if_false])
    all_goals try simp only [go_sem, Nat.reduceEqDiff, bP, Nat.reduceAdd, Nat.reduceLeDiff, List.length_map, Tryd.f30]
    all_goals first | done | rfl | (simp_all []; done) | trace_state
  | true =>
    rw [hok] at h15
    simp only [if_true] at h15 ⊢
    have h79 := t79' p hwf hok
    cases hp : possibleF p <;> rw [hp] at h79
    all_goals
      refine zm (zj 30) cfn30 rfl (n := 12) rfl ?_
      simp only [bW, if_true, Nat.reduceEqDiff, if_false, zl]
      repeat' first
        | (intro hb; first | cases hb | skip)
        | ((first | apply z8 | apply ze)
           · rfl
           · simp (disch := assumption) only [go_sem, Nat.reduceEqDiff, Nat.reduceAdd, bP, zf, Nat.reduceLeDiff, Nat.reduceLT, Nat.reduceMul, List.length_append, decide_eq_true_eq, z9, z6, Int.reduceToNat, Int.reduceLE, Int.reduceLT, Int.reduceBNe, Int.reduceBEq, h15, h79]
             rfl
           · simp only [go_sem, Nat.reduceLT, Nat.reduceEqDiff]
             rfl
           · rfl
           first
           | (apply zd
              · simp only [z5, z0, Nat.reduceLT, decide_true, cond_true, ins]
                rfl
              · simp only [z5, z0, Nat.reduceLT, decide_true, cond_true, ins]
                rfl)
           | (apply zh
              · simp only [z5, z0, Nat.reduceLT, decide_true, cond_true, ins]
                rfl))
        | ((first | apply zb | apply zc)
           · rfl
           · simp only [z5, z0, Nat.reduceLT, decide_true, cond_true, ins]
             rfl)
        | (apply za
           · simp only [go_sem, Nat.reduceEqDiff])
        | (apply z7
           · simp only [go_sem, Nat.reduceEqDiff])
        | (apply zg
           · kernel_rfl
           · kernel_rfl)
        | (simp only [bW, if_true, Nat.reduceEqDiff, if_false])
      all_goals try simp only [go_sem, Nat.reduceEqDiff, bP, Nat.reduceAdd, Nat.reduceLeDiff, List.length_map, Tryd.f30]
      all_goals first | done | rfl | (simp_all []; done) | trace_state


end Go.VS
namespace Go.VS
open Go Go.Proofs
set_option maxHeartbeats 0
set_option linter.unusedSimpArgs false

noncomputable def lp81_5 : Code := zz [1, 1, 0, 1, 0, 0] (zo Tryd.f81)
theorem lk81_5 : cfg.keep 81 (zr lp81_5) = [1, 2, 4, 13, 14] := by kernel_rfl

def endF0 (p : Paper) (s : Nat) : F4 := ⟨(loF p s 0).n, (loF p s 0).d, (loF p s 1).n, (loF p s 1).d⟩
theorem L81_5_0 {F : Exit → St → Option D} (p : Paper) (k : List Kt) (x : D) (hwf : p.wf) (hok : zn p = true) : ∀ (m i : Nat) (l : List F4), (i : Int) + m = p.sheets → l.length + m ≤ 1000 →
    (∀ l', l' = l ++ (List.range' i m).map (endF0 p) → zB cfg (lim cfg) 81 F k (.exit 0) ⟨33, [(15, B false), (1, I 0), (2, .lref 0 0 3 0), (4, gD 1 4 (l')), (13, I p.sheets), (14, I (i + m : Nat))], (0, ⟨[zt p], 3, false⟩) :: gO 1 4 zP (l'), gN 1 (l'), 0⟩ = some x) →
    EvL cfg (lim cfg) 81 F lp81_5 k ⟨33, [(1, I 0), (2, .lref 0 0 3 0), (4, gD 1 4 (l)), (13, I p.sheets), (14, I (i : Nat))], (0, ⟨[zt p], 3, false⟩) :: gO 1 4 zP (l), gN 1 (l), 0⟩ = some x := by
  intro m
  obtain ⟨o1, o2, _⟩ := zC hok
  induction m with
  | zero =>
    intro i l hi he h
    have hi' : ((i : Int) < p.sheets) = False := by simp; omega
    refine zk ?_
    try dsimp only [lp81_5, zz, zo, Tryd.f81]
    simp only [bW, if_true, Nat.reduceEqDiff, if_false]
    repeat' first
      | (intro hb; first | cases hb | skip)
      | ((first | apply z8 | apply ze)
         · rfl
         · simp (disch := assumption) only [go_sem, Nat.reduceEqDiff, Nat.reduceAdd, bP, zf, Nat.reduceLeDiff, Nat.reduceLT, Nat.reduceMul, List.length_append, decide_eq_true_eq, z9, z6, Int.reduceToNat, Int.reduceLE, Int.reduceLT, Int.reduceBNe, Int.reduceBEq, hi']
           rfl
         · simp only [go_sem, Nat.reduceLT, Nat.reduceEqDiff]
           rfl
         · rfl
         first
         | (apply zd
            · simp only [z5, z0, Nat.reduceLT, decide_true, cond_true, ins]
              rfl
            · simp only [z5, z0, Nat.reduceLT, decide_true, cond_true, ins]
              rfl)
         | (apply zh
            · simp only [z5, z0, Nat.reduceLT, decide_true, cond_true, ins]
              rfl))
      | ((first | apply zb | apply zc)
         · rfl
         · simp only [z5, z0, Nat.reduceLT, decide_true, cond_true, ins]
           rfl)
      | (apply za
         · simp only [go_sem, Nat.reduceEqDiff])
      | (apply z7
         · simp only [go_sem, Nat.reduceEqDiff])
      | (apply zg
         · kernel_rfl
         · kernel_rfl)
      | (simp only [bW, if_true, Nat.reduceEqDiff, if_false])
    have := h l (by simp)
    rw [Nat.add_zero] at this
    exact this
  | succ m ih =>
    intro i l hi he h
    have hlt' : ((i : Int) < p.sheets) = True := by simp; omega
    have hw3 : IntKind.i64.wrap ((i : Int) + 1) = ((i + 1 : Nat) : Int) := by rw [wrap_i64 (by omega) (by omega)]; omega
    have hs : zw p i = true := by simp [zw]; omega
    have h73a := t73 p i 0 hwf hok hs
    have h73b := t73 p i 1 hwf hok hs
    rw [show i + (m + 1) = i + 1 + m by omega] at h
    cases l with
    | nil =>
      simp only [gD, gO, gN]
      refine zk ?_
      try dsimp only [lp81_5, zz, zo, Tryd.f81]
      simp only [bW, if_true, Nat.reduceEqDiff, if_false]
      repeat' first
        | (intro hb; first | cases hb | skip)
        | ((first | apply z8 | apply ze)
           · rfl
           · simp (disch := assumption) only [go_sem, Nat.reduceEqDiff, Nat.reduceAdd, bP, zf, Nat.reduceLeDiff, Nat.reduceLT, Nat.reduceMul, List.length_append, decide_eq_true_eq, z9, z6, Int.reduceToNat, Int.reduceLE, Int.reduceLT, Int.reduceBNe, Int.reduceBEq, hlt', hw3, h73a, h73b, show (0 : Nat) < 2 from by decide, show (1 : Nat) < 2 from by decide, okF.allOk]
             rfl
           · simp only [go_sem, Nat.reduceLT, Nat.reduceEqDiff]
             rfl
           · rfl
           first
           | (apply zd
              · simp only [z5, z0, Nat.reduceLT, decide_true, cond_true, ins]
                rfl
              · simp only [z5, z0, Nat.reduceLT, decide_true, cond_true, ins]
                rfl)
           | (apply zh
              · simp only [z5, z0, Nat.reduceLT, decide_true, cond_true, ins]
                rfl))
        | ((first | apply zb | apply zc)
           · rfl
           · simp only [z5, z0, Nat.reduceLT, decide_true, cond_true, ins]
             rfl)
        | (apply za
           · simp only [go_sem, Nat.reduceEqDiff])
        | (apply z7
           · simp only [go_sem, Nat.reduceEqDiff])
        | (apply zg
           · kernel_rfl
           · kernel_rfl)
        | (simp only [bW, if_true, Nat.reduceEqDiff, if_false])
      refine zu (st1 := ⟨33, [(1, I 0), (2, .lref 0 0 3 0), (4, gD 1 4 ([endF0 p i])), (13, I p.sheets), (14, I (i + 1 : Nat))], (0, ⟨[zt p], 3, false⟩) :: gO 1 4 zP ([endF0 p i]), gN 1 ([endF0 p i]), 0⟩) lk81_5 (by
        simp only [go_sem, List.map_append, Nat.reduceEqDiff, Nat.reduceLT, Nat.reduceAdd, bI, bD, bI2, okF.renL, okF.idsL, okF.idsL_app, gD, gO, gN, endF0, zP, zt, List.length_append, List.length_map]) (ih (i + 1) ([endF0 p i]) (by omega) (by simp at he ⊢; omega) (fun l' hl' => h l' (by rw [hl', List.range'_succ]; simp)))
    | cons e r =>
      simp only [List.length_cons] at he
      have hle : (r.length + 1 + 1 ≤ r.length + 1) = False := by simp
      have hb1 : ((r.length + 1 + 1) * 32 ≤ big) = True := by simp [big]; omega
      have hb2 : (r.length + 1 + 1 ≤ big) = True := by simp [big]; omega
      have hao : allOk 4 (zP e :: List.map zP r) = true := okF.allOk (e :: r)
      simp only [gD, gO, gN, List.map_cons]
      refine zk ?_
      try dsimp only [lp81_5, zz, zo, Tryd.f81]
      simp only [bW, if_true, Nat.reduceEqDiff, if_false]
      repeat' first
        | (intro hb; first | cases hb | skip)
        | ((first | apply z8 | apply ze)
           · rfl
           · simp (disch := assumption) only [go_sem, Nat.reduceEqDiff, Nat.reduceAdd, bP, zf, Nat.reduceLeDiff, Nat.reduceLT, Nat.reduceMul, List.length_append, decide_eq_true_eq, z9, z6, Int.reduceToNat, Int.reduceLE, Int.reduceLT, Int.reduceBNe, Int.reduceBEq, hlt', hw3, h73a, h73b, show (0 : Nat) < 2 from by decide, show (1 : Nat) < 2 from by decide, okF.allOk, hao, hle, hb1, hb2, List.length_map]
             rfl
           · simp only [go_sem, Nat.reduceLT, Nat.reduceEqDiff]
             rfl
           · rfl
           first
           | (apply zd
              · simp only [z5, z0, Nat.reduceLT, decide_true, cond_true, ins]
                rfl
              · simp only [z5, z0, Nat.reduceLT, decide_true, cond_true, ins]
                rfl)
           | (apply zh
              · simp only [z5, z0, Nat.reduceLT, decide_true, cond_true, ins]
                rfl))
        | ((first | apply zb | apply zc)
           · rfl
           · simp only [z5, z0, Nat.reduceLT, decide_true, cond_true, ins]
             rfl)
        | (apply za
           · simp only [go_sem, Nat.reduceEqDiff])
        | (apply z7
           · simp only [go_sem, Nat.reduceEqDiff])
        | (apply zg
           · kernel_rfl
           · kernel_rfl)
        | (simp only [bW, if_true, Nat.reduceEqDiff, if_false])
      refine zu (st1 := ⟨33, [(1, I 0), (2, .lref 0 0 3 0), (4, gD 1 4 ((e :: r) ++ [endF0 p i])), (13, I p.sheets), (14, I (i + 1 : Nat))], (0, ⟨[zt p], 3, false⟩) :: gO 1 4 zP ((e :: r) ++ [endF0 p i]), gN 1 ((e :: r) ++ [endF0 p i]), 0⟩) lk81_5 (by
        simp only [go_sem, List.map_append, Nat.reduceEqDiff, Nat.reduceLT, Nat.reduceAdd, bI, bD, bI2, okF.renL, okF.idsL, okF.idsL_app, gD, gO, gN, endF0, zP, zt, List.length_append, List.length_map]) (ih (i + 1) ((e :: r) ++ [endF0 p i]) (by omega) (by simp at he ⊢; omega) (fun l' hl' => h l' (by rw [hl', List.range'_succ]; simp)))
def endsF0 (p : Paper) : List F4 := (List.range' 0 p.sheets.toNat).map (endF0 p)
theorem t81_0 (p : Paper) (hwf : p.wf) : (lim cfg).pure 81 [zt p, I 0] = some (if zO p 0 [] = 0 then .tup [.sl false ((endsF0 p).map zP) 4 none, I 0] else .tup [.sl true [] 0 none, I (zO p 0 [])]) := by
  have h71' := t71 p 0 true [] hwf 0 (by simp) (by simp) (by simp)
  simp only [List.map_nil] at h71'
  by_cases hk : zO p 0 [] = 0
  · rw [if_pos hk]
    rw [hk] at h71'
    obtain ⟨hok, hp, hs, hax⟩ := known_zero.1 hk
    obtain ⟨o1, o2, _⟩ := zC hok
    obtain ⟨n, hn⟩ := Int.eq_ofNat_of_zero_le (show 0 ≤ p.sheets by omega)
    refine zm (zj 81) cfn81 rfl (n := 33) rfl ?_
    generalize hF : finP cfg Tryd.f81 = F
    simp only [bW, if_true, Nat.reduceEqDiff, if_false, zl]
    repeat' first
      | (intro hb; first | cases hb | skip)
      | ((first | apply z8 | apply ze)
         · rfl
         · simp (disch := assumption) only [go_sem, Nat.reduceEqDiff, Nat.reduceAdd, bP, zf, Nat.reduceLeDiff, Nat.reduceLT, Nat.reduceMul, List.length_append, decide_eq_true_eq, z9, z6, Int.reduceToNat, Int.reduceLE, Int.reduceLT, Int.reduceBNe, Int.reduceBEq, h71']
           rfl
         · simp only [go_sem, Nat.reduceLT, Nat.reduceEqDiff]
           rfl
         · rfl
         first
         | (apply zd
            · simp only [z5, z0, Nat.reduceLT, decide_true, cond_true, ins]
              rfl
            · simp only [z5, z0, Nat.reduceLT, decide_true, cond_true, ins]
              rfl)
         | (apply zh
            · simp only [z5, z0, Nat.reduceLT, decide_true, cond_true, ins]
              rfl))
      | ((first | apply zb | apply zc)
         · rfl
         · simp only [z5, z0, Nat.reduceLT, decide_true, cond_true, ins]
           rfl)
      | (apply za
         · simp only [go_sem, Nat.reduceEqDiff])
      | (apply z7
         · simp only [go_sem, Nat.reduceEqDiff])
      | (apply zg
         · kernel_rfl
         · kernel_rfl)
      | (simp only [bW, if_true, Nat.reduceEqDiff, if_false])
    refine zS (st1 := ⟨33, [(1, I 0), (2, .lref 0 0 3 0), (4, gD 1 4 ([])), (13, I p.sheets), (14, I (0 : Nat))], (0, ⟨[zt p], 3, false⟩) :: gO 1 4 zP ([]), gN 1 ([]), 0⟩) lk81_5 (by
      simp only [go_sem, List.map_append, Nat.reduceEqDiff, Nat.reduceLT, Nat.reduceAdd, bI, bD, bI2, gD, gO, gN]
      try rfl) (L81_5_0 p _ _ hwf hok n 0 [] (by omega) (by simp; omega) (fun l hl => ?_))
    obtain ⟨e, r, rfl⟩ : ∃ e r, l = e :: r := by
      cases l with
      | nil => 
        have := congrArg List.length hl
        simp at this; omega
      | cons e r => exact ⟨e, r, rfl⟩
    have hl' : e :: r = endsF0 p := by rw [hl]; simp [endsF0, hn]
    rw [← hl']
    simp only [gD, gO, gN, List.map_cons]
    simp only [bW, if_true, Nat.reduceEqDiff, if_false]
    repeat' first
      | (intro hb; first | cases hb | skip)
      | ((first | apply z8 | apply ze)
         · rfl
         · simp (disch := assumption) only [go_sem, Nat.reduceEqDiff, Nat.reduceAdd, bP, zf, Nat.reduceLeDiff, Nat.reduceLT, Nat.reduceMul, List.length_append, decide_eq_true_eq, z9, z6, Int.reduceToNat, Int.reduceLE, Int.reduceLT, Int.reduceBNe, Int.reduceBEq]
           rfl
         · simp only [go_sem, Nat.reduceLT, Nat.reduceEqDiff]
           rfl
         · rfl
         first
         | (apply zd
            · simp only [z5, z0, Nat.reduceLT, decide_true, cond_true, ins]
              rfl
            · simp only [z5, z0, Nat.reduceLT, decide_true, cond_true, ins]
              rfl)
         | (apply zh
            · simp only [z5, z0, Nat.reduceLT, decide_true, cond_true, ins]
              rfl))
      | ((first | apply zb | apply zc)
         · rfl
         · simp only [z5, z0, Nat.reduceLT, decide_true, cond_true, ins]
           rfl)
      | (apply za
         · simp only [go_sem, Nat.reduceEqDiff])
      | (apply z7
         · simp only [go_sem, Nat.reduceEqDiff])
      | (apply zg
         · kernel_rfl
         · kernel_rfl)
      | (simp only [bW, if_true, Nat.reduceEqDiff, if_false])
    subst hF
    simp only [go_sem, Nat.reduceEqDiff, bP, Nat.reduceAdd, Nat.reduceLeDiff, List.length_map, Tryd.f81, okF.snapAll, z9, okF.snap]
  · rw [if_neg hk]
    have hne : (zO p 0 [] != 0) = true := by simp [hk]
    refine zm (zj 81) cfn81 rfl (n := 33) rfl ?_
    simp only [bW, if_true, Nat.reduceEqDiff, if_false, zl]
    repeat' first
      | (intro hb; first | cases hb | skip)
      | ((first | apply z8 | apply ze)
         · rfl
         · simp (disch := assumption) only [go_sem, Nat.reduceEqDiff, Nat.reduceAdd, bP, zf, Nat.reduceLeDiff, Nat.reduceLT, Nat.reduceMul, List.length_append, decide_eq_true_eq, z9, z6, Int.reduceToNat, Int.reduceLE, Int.reduceLT, Int.reduceBNe, Int.reduceBEq, h71', hne]
           rfl
         · simp only [go_sem, Nat.reduceLT, Nat.reduceEqDiff]
           rfl
         · rfl
         first
         | (apply zd
            · simp only [z5, z0, Nat.reduceLT, decide_true, cond_true, ins]
              rfl
            · simp only [z5, z0, Nat.reduceLT, decide_true, cond_true, ins]
              rfl)
         | (apply zh
            · simp only [z5, z0, Nat.reduceLT, decide_true, cond_true, ins]
              rfl))
      | ((first | apply zb | apply zc)
         · rfl
         · simp only [z5, z0, Nat.reduceLT, decide_true, cond_true, ins]
           rfl)
      | (apply za
         · simp only [go_sem, Nat.reduceEqDiff])
      | (apply z7
         · simp only [go_sem, Nat.reduceEqDiff])
      | (apply zg
         · kernel_rfl
         · kernel_rfl)
      | (simp only [bW, if_true, Nat.reduceEqDiff, if_false])
    all_goals try simp only [go_sem, Nat.reduceEqDiff, bP, Nat.reduceAdd, Nat.reduceLeDiff, List.length_map, Tryd.f81]
    all_goals first | done | rfl | (simp_all []; done) | trace_state


def endF1 (p : Paper) (s : Nat) : F4 := ⟨(hiF p s 0).n, (hiF p s 0).d, (hiF p s 1).n, (hiF p s 1).d⟩
theorem L81_5_1 {F : Exit → St → Option D} (p : Paper) (k : List Kt) (x : D) (hwf : p.wf) (hok : zn p = true) : ∀ (m i : Nat) (l : List F4), (i : Int) + m = p.sheets → l.length + m ≤ 1000 →
    (∀ l', l' = l ++ (List.range' i m).map (endF1 p) → zB cfg (lim cfg) 81 F k (.exit 0) ⟨33, [(15, B false), (1, I 1), (2, .lref 0 0 3 0), (4, gD 1 4 (l')), (13, I p.sheets), (14, I (i + m : Nat))], (0, ⟨[zt p], 3, false⟩) :: gO 1 4 zP (l'), gN 1 (l'), 0⟩ = some x) →
    EvL cfg (lim cfg) 81 F lp81_5 k ⟨33, [(1, I 1), (2, .lref 0 0 3 0), (4, gD 1 4 (l)), (13, I p.sheets), (14, I (i : Nat))], (0, ⟨[zt p], 3, false⟩) :: gO 1 4 zP (l), gN 1 (l), 0⟩ = some x := by
  intro m
  obtain ⟨o1, o2, _⟩ := zC hok
  induction m with
  | zero =>
    intro i l hi he h
    have hi' : ((i : Int) < p.sheets) = False := by simp; omega
    refine zk ?_
    try dsimp only [lp81_5, zz, zo, Tryd.f81]
    simp only [bW, if_true, Nat.reduceEqDiff, if_false]
    repeat' first
      | (intro hb; first | cases hb | skip)
      | ((first | apply z8 | apply ze)
         · rfl
         · simp (disch := assumption) only [go_sem, Nat.reduceEqDiff, Nat.reduceAdd, bP, zf, Nat.reduceLeDiff, Nat.reduceLT, Nat.reduceMul, List.length_append, decide_eq_true_eq, z9, z6, Int.reduceToNat, Int.reduceLE, Int.reduceLT, Int.reduceBNe, Int.reduceBEq, hi']
           rfl
         · simp only [go_sem, Nat.reduceLT, Nat.reduceEqDiff]
           rfl
         · rfl
         first
         | (apply zd
            · simp only [z5, z0, Nat.reduceLT, decide_true, cond_true, ins]
              rfl
            · simp only [z5, z0, Nat.reduceLT, decide_true, cond_true, ins]
              rfl)
         | (apply zh
            · simp only [z5, z0, Nat.reduceLT, decide_true, cond_true, ins]
              rfl))
      | ((first | apply zb | apply zc)
         · rfl
         · simp only [z5, z0, Nat.reduceLT, decide_true, cond_true, ins]
           rfl)
      | (apply za
         · simp only [go_sem, Nat.reduceEqDiff])
      | (apply z7
         · simp only [go_sem, Nat.reduceEqDiff])
      | (apply zg
         · kernel_rfl
         · kernel_rfl)
      | (simp only [bW, if_true, Nat.reduceEqDiff, if_false])
    have := h l (by simp)
    rw [Nat.add_zero] at this
    exact this
  | succ m ih =>
    intro i l hi he h
    have hlt' : ((i : Int) < p.sheets) = True := by simp; omega
    have hw3 : IntKind.i64.wrap ((i : Int) + 1) = ((i + 1 : Nat) : Int) := by rw [wrap_i64 (by omega) (by omega)]; omega
    have hs : zw p i = true := by simp [zw]; omega
    have h73a := t73 p i 0 hwf hok hs
    have h73b := t73 p i 1 hwf hok hs
    rw [show i + (m + 1) = i + 1 + m by omega] at h
    cases l with
    | nil =>
      simp only [gD, gO, gN]
      refine zk ?_
      try dsimp only [lp81_5, zz, zo, Tryd.f81]
      simp only [bW, if_true, Nat.reduceEqDiff, if_false]
      repeat' first
        | (intro hb; first | cases hb | skip)
        | ((first | apply z8 | apply ze)
           · rfl
           · simp (disch := assumption) only [go_sem, Nat.reduceEqDiff, Nat.reduceAdd, bP, zf, Nat.reduceLeDiff, Nat.reduceLT, Nat.reduceMul, List.length_append, decide_eq_true_eq, z9, z6, Int.reduceToNat, Int.reduceLE, Int.reduceLT, Int.reduceBNe, Int.reduceBEq, hlt', hw3, h73a, h73b, show (0 : Nat) < 2 from by decide, show (1 : Nat) < 2 from by decide, okF.allOk]
             rfl
           · simp only [go_sem, Nat.reduceLT, Nat.reduceEqDiff]
             rfl
           · rfl
           first
           | (apply zd
              · simp only [z5, z0, Nat.reduceLT, decide_true, cond_true, ins]
                rfl
              · simp only [z5, z0, Nat.reduceLT, decide_true, cond_true, ins]
                rfl)
           | (apply zh
              · simp only [z5, z0, Nat.reduceLT, decide_true, cond_true, ins]
                rfl))
        | ((first | apply zb | apply zc)
           · rfl
           · simp only [z5, z0, Nat.reduceLT, decide_true, cond_true, ins]
             rfl)
        | (apply za
           · simp only [go_sem, Nat.reduceEqDiff])
        | (apply z7
           · simp only [go_sem, Nat.reduceEqDiff])
        | (apply zg
           · kernel_rfl
           · kernel_rfl)
        | (simp only [bW, if_true, Nat.reduceEqDiff, if_false])
      refine zu (st1 := ⟨33, [(1, I 1), (2, .lref 0 0 3 0), (4, gD 1 4 ([endF1 p i])), (13, I p.sheets), (14, I (i + 1 : Nat))], (0, ⟨[zt p], 3, false⟩) :: gO 1 4 zP ([endF1 p i]), gN 1 ([endF1 p i]), 0⟩) lk81_5 (by
        simp only [go_sem, List.map_append, Nat.reduceEqDiff, Nat.reduceLT, Nat.reduceAdd, bI, bD, bI2, okF.renL, okF.idsL, okF.idsL_app, gD, gO, gN, endF1, zP, zt, List.length_append, List.length_map]) (ih (i + 1) ([endF1 p i]) (by omega) (by simp at he ⊢; omega) (fun l' hl' => h l' (by rw [hl', List.range'_succ]; simp)))
    | cons e r =>
      simp only [List.length_cons] at he
      have hle : (r.length + 1 + 1 ≤ r.length + 1) = False := by simp
      have hb1 : ((r.length + 1 + 1) * 32 ≤ big) = True := by simp [big]; omega
      have hb2 : (r.length + 1 + 1 ≤ big) = True := by simp [big]; omega
      have hao : allOk 4 (zP e :: List.map zP r) = true := okF.allOk (e :: r)
      simp only [gD, gO, gN, List.map_cons]
      refine zk ?_
      try dsimp only [lp81_5, zz, zo, Tryd.f81]
      simp only [bW, if_true, Nat.reduceEqDiff, if_false]
      repeat' first
        | (intro hb; first | cases hb | skip)
        | ((first | apply z8 | apply ze)
           · rfl
           · simp (disch := assumption) only [go_sem, Nat.reduceEqDiff, Nat.reduceAdd, bP, zf, Nat.reduceLeDiff, Nat.reduceLT, Nat.reduceMul, List.length_append, decide_eq_true_eq, z9, z6, Int.reduceToNat, Int.reduceLE, Int.reduceLT, Int.reduceBNe, Int.reduceBEq, hlt', hw3, h73a, h73b, show (0 : Nat) < 2 from by decide, show (1 : Nat) < 2 from by decide, okF.allOk, hao, hle, hb1, hb2, List.length_map]
             rfl
           · simp only [go_sem, Nat.reduceLT, Nat.reduceEqDiff]
             rfl
           · rfl
           first
           | (apply zd
              · simp only [z5, z0, Nat.reduceLT, decide_true, cond_true, ins]
                rfl
              · simp only [z5, z0, Nat.reduceLT, decide_true, cond_true, ins]
                rfl)
           | (apply zh
              · simp only [z5, z0, Nat.reduceLT, decide_true, cond_true, ins]
                rfl))
        | ((first | apply zb | apply zc)
           · rfl
           · simp only [z5, z0, Nat.reduceLT, decide_true, cond_true, ins]
             rfl)
        | (apply za
           · simp only [go_sem, Nat.reduceEqDiff])
        | (apply z7
           · simp only [go_sem, Nat.reduceEqDiff])
        | (apply zg
           · kernel_rfl
           · kernel_rfl)
        | (simp only [bW, if_true, Nat.reduceEqDiff, if_false])
      refine zu (st1 := ⟨33, [(1, I 1), (2, .lref 0 0 3 0), (4, gD 1 4 ((e :: r) ++ [endF1 p i])), (13, I p.sheets), (14, I (i + 1 : Nat))], (0, ⟨[zt p], 3, false⟩) :: gO 1 4 zP ((e :: r) ++ [endF1 p i]), gN 1 ((e :: r) ++ [endF1 p i]), 0⟩) lk81_5 (by
        simp only [go_sem, List.map_append, Nat.reduceEqDiff, Nat.reduceLT, Nat.reduceAdd, bI, bD, bI2, okF.renL, okF.idsL, okF.idsL_app, gD, gO, gN, endF1, zP, zt, List.length_append, List.length_map]) (ih (i + 1) ((e :: r) ++ [endF1 p i]) (by omega) (by simp at he ⊢; omega) (fun l' hl' => h l' (by rw [hl', List.range'_succ]; simp)))
def endsF1 (p : Paper) : List F4 := (List.range' 0 p.sheets.toNat).map (endF1 p)
theorem t81_1 (p : Paper) (hwf : p.wf) : (lim cfg).pure 81 [zt p, I 1] = some (if zO p 0 [] = 0 then .tup [.sl false ((endsF1 p).map zP) 4 none, I 0] else .tup [.sl true [] 0 none, I (zO p 0 [])]) := by
  have h71' := t71 p 0 true [] hwf 0 (by simp) (by simp) (by simp)
  simp only [List.map_nil] at h71'
  by_cases hk : zO p 0 [] = 0
  · rw [if_pos hk]
    rw [hk] at h71'
    obtain ⟨hok, hp, hs, hax⟩ := known_zero.1 hk
    obtain ⟨o1, o2, _⟩ := zC hok
    obtain ⟨n, hn⟩ := Int.eq_ofNat_of_zero_le (show 0 ≤ p.sheets by omega)
    refine zm (zj 81) cfn81 rfl (n := 33) rfl ?_
    generalize hF : finP cfg Tryd.f81 = F
    simp only [bW, if_true, Nat.reduceEqDiff, if_false, zl]
    repeat' first
      | (intro hb; first | cases hb | skip)
      | ((first | apply z8 | apply ze)
         · rfl
         · simp (disch := assumption) only [go_sem, Nat.reduceEqDiff, Nat.reduceAdd, bP, zf, Nat.reduceLeDiff, Nat.reduceLT, Nat.reduceMul, List.length_append, decide_eq_true_eq, z9, z6, Int.reduceToNat, Int.reduceLE, Int.reduceLT, Int.reduceBNe, Int.reduceBEq, h71']
           rfl
         · simp only [go_sem, Nat.reduceLT, Nat.reduceEqDiff]
           rfl
         · rfl
         first
         | (apply zd
            · simp only [z5, z0, Nat.reduceLT, decide_true, cond_true, ins]
              rfl
            · simp only [z5, z0, Nat.reduceLT, decide_true, cond_true, ins]
              rfl)
         | (apply zh
            · simp only [z5, z0, Nat.reduceLT, decide_true, cond_true, ins]
              rfl))
      | ((first | apply zb | apply zc)
         · rfl
         · simp only [z5, z0, Nat.reduceLT, decide_true, cond_true, ins]
           rfl)
      | (apply za
         · simp only [go_sem, Nat.reduceEqDiff])
      | (apply z7
         · simp only [go_sem, Nat.reduceEqDiff])
      | (apply zg
         · kernel_rfl
         · kernel_rfl)
      | (simp only [bW, if_true, Nat.reduceEqDiff, if_false])
    refine zS (st1 := ⟨33, [(1, I 1), (2, .lref 0 0 3 0), (4, gD 1 4 ([])), (13, I p.sheets), (14, I (0 : Nat))], (0, ⟨[zt p], 3, false⟩) :: gO 1 4 zP ([]), gN 1 ([]), 0⟩) lk81_5 (by
      simp only [go_sem, List.map_append, Nat.reduceEqDiff, Nat.reduceLT, Nat.reduceAdd, bI, bD, bI2, gD, gO, gN]
      try rfl) (L81_5_1 p _ _ hwf hok n 0 [] (by omega) (by simp; omega) (fun l hl => ?_))
    obtain ⟨e, r, rfl⟩ : ∃ e r, l = e :: r := by
      cases l with
      | nil => 
        have := congrArg List.length hl
        simp at this; omega
      | cons e r => exact ⟨e, r, rfl⟩
    have hl' : e :: r = endsF1 p := by rw [hl]; simp [endsF1, hn]
    rw [← hl']
    simp only [gD, gO, gN, List.map_cons]
    simp only [bW, if_true, Nat.reduceEqDiff, if_false]
    repeat' first
      | (intro hb; first | cases hb | skip)
      | ((first | apply z8 | apply ze)
         · rfl
         · simp (disch := assumption) only [go_sem, Nat.reduceEqDiff, Nat.reduceAdd, bP, zf, Nat.reduceLeDiff, Nat.reduceLT, Nat.reduceMul, List.length_append, decide_eq_true_eq, z9, z6, Int.reduceToNat, Int.reduceLE, Int.reduceLT, Int.reduceBNe, Int.reduceBEq]
           rfl
         · simp only [go_sem, Nat.reduceLT, Nat.reduceEqDiff]
           rfl
         · rfl
         first
         | (apply zd
            · simp only [z5, z0, Nat.reduceLT, decide_true, cond_true, ins]
              rfl
            · simp only [z5, z0, Nat.reduceLT, decide_true, cond_true, ins]
              rfl)
         | (apply zh
            · simp only [z5, z0, Nat.reduceLT, decide_true, cond_true, ins]
              rfl))
      | ((first | apply zb | apply zc)
         · rfl
         · simp only [z5, z0, Nat.reduceLT, decide_true, cond_true, ins]
           rfl)
      | (apply za
         · simp only [go_sem, Nat.reduceEqDiff])
      | (apply z7
         · simp only [go_sem, Nat.reduceEqDiff])
      | (apply zg
         · kernel_rfl
         · kernel_rfl)
      | (simp only [bW, if_true, Nat.reduceEqDiff, if_false])
    subst hF
    simp only [go_sem, Nat.reduceEqDiff, bP, Nat.reduceAdd, Nat.reduceLeDiff, List.length_map, Tryd.f81, okF.snapAll, z9, okF.snap]
  · rw [if_neg hk]
    have hne : (zO p 0 [] != 0) = true := by simp [hk]
    refine zm (zj 81) cfn81 rfl (n := 33) rfl ?_
    simp only [bW, if_true, Nat.reduceEqDiff, if_false, zl]
    repeat' first
      | (intro hb; first | cases hb | skip)
      | ((first | apply z8 | apply ze)
         · rfl
         · simp (disch := assumption) only [go_sem, Nat.reduceEqDiff, Nat.reduceAdd, bP, zf, Nat.reduceLeDiff, Nat.reduceLT, Nat.reduceMul, List.length_append, decide_eq_true_eq, z9, z6, Int.reduceToNat, Int.reduceLE, Int.reduceLT, Int.reduceBNe, Int.reduceBEq, h71', hne]
           rfl
         · simp only [go_sem, Nat.reduceLT, Nat.reduceEqDiff]
           rfl
         · rfl
         first
         | (apply zd
            · simp only [z5, z0, Nat.reduceLT, decide_true, cond_true, ins]
              rfl
            · simp only [z5, z0, Nat.reduceLT, decide_true, cond_true, ins]
              rfl)
         | (apply zh
            · simp only [z5, z0, Nat.reduceLT, decide_true, cond_true, ins]
              rfl))
      | ((first | apply zb | apply zc)
         · rfl
         · simp only [z5, z0, Nat.reduceLT, decide_true, cond_true, ins]
           rfl)
      | (apply za
         · simp only [go_sem, Nat.reduceEqDiff])
      | (apply z7
         · simp only [go_sem, Nat.reduceEqDiff])
      | (apply zg
         · kernel_rfl
         · kernel_rfl)
      | (simp only [bW, if_true, Nat.reduceEqDiff, if_false])
    all_goals try simp only [go_sem, Nat.reduceEqDiff, bP, Nat.reduceAdd, Nat.reduceLeDiff, List.length_map, Tryd.f81]
    all_goals first | done | rfl | (simp_all []; done) | trace_state


end Go.VS
namespace Go.VS
open Go Go.Proofs
set_option maxHeartbeats 0
set_option linter.unusedSimpArgs false

theorem pd_why {t : Ty} {sub : Nat} {ws : List Reason} : zx t sub (whyD ws) = if t.isAgg then none else if sub = 0 then some (whyD ws) else none := by cases ws <;> rfl
noncomputable def lp48_5 : Code := zz [1, 1, 0, 1, 0, 0] (zo Tryd.f48)
theorem lk48_5 : cfg.keep 48 (zr lp48_5) = [1, 13] := by kernel_rfl

noncomputable def lp57_4 : Code := zz [1, 1, 0, 1, 0, 0] (zo Tryd.f57)
theorem lk57_4 : cfg.keep 57 (zr lp57_4) = [0, 1, 12, 13] := by kernel_rfl

theorem t32 (p : Paper) (hwf : p.wf) : (lim cfg).pure 32 [zt p] = some (if zO p 0 [] = 0 then .tup [.sl false ((endsF0 p).map zP) 4 none, I 0] else .tup [.sl true [] 0 none, I (zO p 0 [])]) := by
  have h81 := t81_0 p hwf
  split at h81 <;> rename_i hk
  · rw [if_pos hk]
    refine zm (zj 32) cfn32 rfl (n := 8) rfl ?_
    simp only [bW, if_true, Nat.reduceEqDiff, if_false, zl]
    repeat' first
      | (intro hb; first | cases hb | skip)
      | ((first | apply z8 | apply ze)
         · rfl
         · simp (disch := assumption) only [go_sem, Nat.reduceEqDiff, Nat.reduceAdd, bP, zf, Nat.reduceLeDiff, Nat.reduceLT, Nat.reduceMul, List.length_append, decide_eq_true_eq, z9, z6, Int.reduceToNat, Int.reduceLE, Int.reduceLT, Int.reduceBNe, Int.reduceBEq, h81]
           rfl
         · simp only [go_sem, Nat.reduceLT, Nat.reduceEqDiff]
           rfl
         · rfl
         first
         | (apply zd
            · simp only [z5, z0, Nat.reduceLT, decide_true, cond_true, ins]
              rfl
            · simp only [z5, z0, Nat.reduceLT, decide_true, cond_true, ins]
              rfl)
         | (apply zh
            · simp only [z5, z0, Nat.reduceLT, decide_true, cond_true, ins]
              rfl))
      | ((first | apply zb | apply zc)
         · rfl
         · simp only [z5, z0, Nat.reduceLT, decide_true, cond_true, ins]
           rfl)
      | (apply za
         · simp only [go_sem, Nat.reduceEqDiff])
      | (apply z7
         · simp only [go_sem, Nat.reduceEqDiff])
      | (apply zg
         · kernel_rfl
         · kernel_rfl)
      | (simp only [bW, if_true, Nat.reduceEqDiff, if_false])
    all_goals try simp only [go_sem, Nat.reduceEqDiff, bP, Nat.reduceAdd, Nat.reduceLeDiff, List.length_map, Tryd.f32, okF.snapAll]
    all_goals first | done | rfl | (simp_all []; done) | trace_state
  · rw [if_neg hk]
    refine zm (zj 32) cfn32 rfl (n := 8) rfl ?_
    simp only [bW, if_true, Nat.reduceEqDiff, if_false, zl]
    repeat' first
      | (intro hb; first | cases hb | skip)
      | ((first | apply z8 | apply ze)
         · rfl
         · simp (disch := assumption) only [go_sem, Nat.reduceEqDiff, Nat.reduceAdd, bP, zf, Nat.reduceLeDiff, Nat.reduceLT, Nat.reduceMul, List.length_append, decide_eq_true_eq, z9, z6, Int.reduceToNat, Int.reduceLE, Int.reduceLT, Int.reduceBNe, Int.reduceBEq, h81]
           rfl
         · simp only [go_sem, Nat.reduceLT, Nat.reduceEqDiff]
           rfl
         · rfl
         first
         | (apply zd
            · simp only [z5, z0, Nat.reduceLT, decide_true, cond_true, ins]
              rfl
            · simp only [z5, z0, Nat.reduceLT, decide_true, cond_true, ins]
              rfl)
         | (apply zh
            · simp only [z5, z0, Nat.reduceLT, decide_true, cond_true, ins]
              rfl))
      | ((first | apply zb | apply zc)
         · rfl
         · simp only [z5, z0, Nat.reduceLT, decide_true, cond_true, ins]
           rfl)
      | (apply za
         · simp only [go_sem, Nat.reduceEqDiff])
      | (apply z7
         · simp only [go_sem, Nat.reduceEqDiff])
      | (apply zg
         · kernel_rfl
         · kernel_rfl)
      | (simp only [bW, if_true, Nat.reduceEqDiff, if_false])
    all_goals try simp only [go_sem, Nat.reduceEqDiff, bP, Nat.reduceAdd, Nat.reduceLeDiff, List.length_map, Tryd.f32]
    all_goals first | done | rfl | (simp_all []; done) | trace_state

theorem t33 (p : Paper) (hwf : p.wf) : (lim cfg).pure 33 [zt p] = some (if zO p 0 [] = 0 then .tup [.sl false ((endsF1 p).map zP) 4 none, I 0] else .tup [.sl true [] 0 none, I (zO p 0 [])]) := by
  have h81 := t81_1 p hwf
  split at h81 <;> rename_i hk
  · rw [if_pos hk]
    refine zm (zj 33) cfn33 rfl (n := 8) rfl ?_
    simp only [bW, if_true, Nat.reduceEqDiff, if_false, zl]
    repeat' first
      | (intro hb; first | cases hb | skip)
      | ((first | apply z8 | apply ze)
         · rfl
         · simp (disch := assumption) only [go_sem, Nat.reduceEqDiff, Nat.reduceAdd, bP, zf, Nat.reduceLeDiff, Nat.reduceLT, Nat.reduceMul, List.length_append, decide_eq_true_eq, z9, z6, Int.reduceToNat, Int.reduceLE, Int.reduceLT, Int.reduceBNe, Int.reduceBEq, h81]
           rfl
         · simp only [go_sem, Nat.reduceLT, Nat.reduceEqDiff]
           rfl
         · rfl
         first
         | (apply zd
            · simp only [z5, z0, Nat.reduceLT, decide_true, cond_true, ins]
              rfl
            · simp only [z5, z0, Nat.reduceLT, decide_true, cond_true, ins]
              rfl)
         | (apply zh
            · simp only [z5, z0, Nat.reduceLT, decide_true, cond_true, ins]
              rfl))
      | ((first | apply zb | apply zc)
         · rfl
         · simp only [z5, z0, Nat.reduceLT, decide_true, cond_true, ins]
           rfl)
      | (apply za
         · simp only [go_sem, Nat.reduceEqDiff])
      | (apply z7
         · simp only [go_sem, Nat.reduceEqDiff])
      | (apply zg
         · kernel_rfl
         · kernel_rfl)
      | (simp only [bW, if_true, Nat.reduceEqDiff, if_false])
    all_goals try simp only [go_sem, Nat.reduceEqDiff, bP, Nat.reduceAdd, Nat.reduceLeDiff, List.length_map, Tryd.f33, okF.snapAll]
    all_goals first | done | rfl | (simp_all []; done) | trace_state
  · rw [if_neg hk]
    refine zm (zj 33) cfn33 rfl (n := 8) rfl ?_
    simp only [bW, if_true, Nat.reduceEqDiff, if_false, zl]
    repeat' first
      | (intro hb; first | cases hb | skip)
      | ((first | apply z8 | apply ze)
         · rfl
         · simp (disch := assumption) only [go_sem, Nat.reduceEqDiff, Nat.reduceAdd, bP, zf, Nat.reduceLeDiff, Nat.reduceLT, Nat.reduceMul, List.length_append, decide_eq_true_eq, z9, z6, Int.reduceToNat, Int.reduceLE, Int.reduceLT, Int.reduceBNe, Int.reduceBEq, h81]
           rfl
         · simp only [go_sem, Nat.reduceLT, Nat.reduceEqDiff]
           rfl
         · rfl
         first
         | (apply zd
            · simp only [z5, z0, Nat.reduceLT, decide_true, cond_true, ins]
              rfl
            · simp only [z5, z0, Nat.reduceLT, decide_true, cond_true, ins]
              rfl)
         | (apply zh
            · simp only [z5, z0, Nat.reduceLT, decide_true, cond_true, ins]
              rfl))
      | ((first | apply zb | apply zc)
         · rfl
         · simp only [z5, z0, Nat.reduceLT, decide_true, cond_true, ins]
           rfl)
      | (apply za
         · simp only [go_sem, Nat.reduceEqDiff])
      | (apply z7
         · simp only [go_sem, Nat.reduceEqDiff])
      | (apply zg
         · kernel_rfl
         · kernel_rfl)
      | (simp only [bW, if_true, Nat.reduceEqDiff, if_false])
    all_goals try simp only [go_sem, Nat.reduceEqDiff, bP, Nat.reduceAdd, Nat.reduceLeDiff, List.length_map, Tryd.f33]
    all_goals first | done | rfl | (simp_all []; done) | trace_state

def clashR (p : Paper) : Option Chn := match clashA p 0 with | some c => some c | none => clashA p 1
def clashD (o : Option Chn) : D := match o with | some c => .tup [whyD c.why, B true, I 0] | none => .tup [.sl true [] 0 none, B false, I 0]
theorem t48 (p : Paper) (hwf : p.wf) : (lim cfg).pure 48 [zt p] = some (if zn p then clashD (clashR p) else .tup [.sl true [] 0 none, B false, I 30]) := by
  have h15 := t15 p hwf
  unfold check at h15
  cases hok : zn p with
  | false =>
    rw [hok] at h15
    simp only [Bool.false_eq_true, if_false] at h15 ⊢
    refine zm (zj 48) cfn48 rfl (n := 26) rfl ?_
    simp only [bW, if_true, Nat.reduceEqDiff, if_false, zl]
    repeat' first
      | (intro hb; first | cases hb | skip)
      | ((first | apply z8 | apply ze)
         · rfl
         · simp (disch := assumption) only [go_sem, Nat.reduceEqDiff, Nat.reduceAdd, bP, zf, Nat.reduceLeDiff, Nat.reduceLT, Nat.reduceMul, List.length_append, decide_eq_true_eq, z9, z6, Int.reduceToNat, Int.reduceLE, Int.reduceLT, Int.reduceBNe, Int.reduceBEq, h15]
           rfl
         · simp only [go_sem, Nat.reduceLT, Nat.reduceEqDiff]
           rfl
         · rfl
         first
         | (apply zd
            · simp only [z5, z0, Nat.reduceLT, decide_true, cond_true, ins]
              rfl
            · simp only [z5, z0, Nat.reduceLT, decide_true, cond_true, ins]
              rfl)
         | (apply zh
            · simp only [z5, z0, Nat.reduceLT, decide_true, cond_true, ins]
              rfl))
      | ((first | apply zb | apply zc)
         · rfl
         · simp only [z5, z0, Nat.reduceLT, decide_true, cond_true, ins]
           rfl)
      | (apply za
         · simp only [go_sem, Nat.reduceEqDiff])
      | (apply z7
         · simp only [go_sem, Nat.reduceEqDiff])
      | (apply zg
         · kernel_rfl
         · kernel_rfl)
      | (simp only [bW, if_true, Nat.reduceEqDiff, if_false])
    all_goals try simp only [go_sem, Nat.reduceEqDiff, bP, Nat.reduceAdd, Nat.reduceLeDiff, List.length_map, Tryd.f48]
    all_goals first | done | rfl | (simp_all []; done) | trace_state
  | true =>
    rw [hok] at h15
    simp only [if_true] at h15 ⊢
    have h0 := t99 p 0 hwf hok
    have h1 := t99 p 1 hwf hok
    unfold clashR
    have e1 : IntKind.i64.wrap (0 + 1) = 1 := by decide
    have e2 : IntKind.i64.wrap (1 + 1) = 2 := by decide
    cases hc0 : clashA p 0 with
    | some c =>
      rw [hc0] at h0
      simp only [zq] at h0
      simp only [clashD]
      refine zm (zj 48) cfn48 rfl (n := 26) rfl ?_
      generalize hF : finP cfg Tryd.f48 = F
      simp only [bW, if_true, Nat.reduceEqDiff, if_false, zl]
      repeat' first
        | (intro hb; first | cases hb | skip)
        | ((first | apply z8 | apply ze)
           · rfl
           · simp (disch := assumption) only [go_sem, Nat.reduceEqDiff, Nat.reduceAdd, bP, zf, Nat.reduceLeDiff, Nat.reduceLT, Nat.reduceMul, List.length_append, decide_eq_true_eq, z9, z6, Int.reduceToNat, Int.reduceLE, Int.reduceLT, Int.reduceBNe, Int.reduceBEq, h15]
             rfl
           · simp only [go_sem, Nat.reduceLT, Nat.reduceEqDiff]
             rfl
           · rfl
           first
           | (apply zd
              · simp only [z5, z0, Nat.reduceLT, decide_true, cond_true, ins]
                rfl
              · simp only [z5, z0, Nat.reduceLT, decide_true, cond_true, ins]
                rfl)
           | (apply zh
              · simp only [z5, z0, Nat.reduceLT, decide_true, cond_true, ins]
                rfl))
        | ((first | apply zb | apply zc)
           · rfl
           · simp only [z5, z0, Nat.reduceLT, decide_true, cond_true, ins]
             rfl)
        | (apply za
           · simp only [go_sem, Nat.reduceEqDiff])
        | (apply z7
           · simp only [go_sem, Nat.reduceEqDiff])
        | (apply zg
           · kernel_rfl
           · kernel_rfl)
        | (simp only [bW, if_true, Nat.reduceEqDiff, if_false])
      refine zS (st1 := ⟨26, [(1, .lref 0 0 3 0), (13, I 0)], [(0, ⟨[zt p], 3, false⟩)], 1, 0⟩) lk48_5 (by kernel_rfl) ?_
      refine zk ?_
      try dsimp only [lp48_5, zz, zo, Tryd.f48]
      simp only [bW, if_true, Nat.reduceEqDiff, if_false]
      repeat' first
        | (intro hb; first | cases hb | skip)
        | ((first | apply z8 | apply ze)
           · rfl
           · simp (disch := assumption) only [go_sem, Nat.reduceEqDiff, Nat.reduceAdd, bP, zf, Nat.reduceLeDiff, Nat.reduceLT, Nat.reduceMul, List.length_append, decide_eq_true_eq, z9, z6, Int.reduceToNat, Int.reduceLE, Int.reduceLT, Int.reduceBNe, Int.reduceBEq, h0, whyD_one, pd_why]
             rfl
           · simp only [go_sem, Nat.reduceLT, Nat.reduceEqDiff]
             rfl
           · rfl
           first
           | (apply zd
              · simp only [z5, z0, Nat.reduceLT, decide_true, cond_true, ins]
                rfl
              · simp only [z5, z0, Nat.reduceLT, decide_true, cond_true, ins]
                rfl)
           | (apply zh
              · simp only [z5, z0, Nat.reduceLT, decide_true, cond_true, ins]
                rfl))
        | ((first | apply zb | apply zc)
           · rfl
           · simp only [z5, z0, Nat.reduceLT, decide_true, cond_true, ins]
             rfl)
        | (apply za
           · simp only [go_sem, Nat.reduceEqDiff])
        | (apply z7
           · simp only [go_sem, Nat.reduceEqDiff])
        | (apply zg
           · kernel_rfl
           · kernel_rfl)
        | (simp only [bW, if_true, Nat.reduceEqDiff, if_false])
      subst hF
      simp only [go_sem, Nat.reduceEqDiff, bP, Nat.reduceAdd, Nat.reduceLeDiff, List.length_map, Tryd.f48, zG]
    | none =>
      rw [hc0] at h0
      simp only [zq] at h0
      cases hc1 : clashA p 1 with
      | some c =>
        rw [hc1] at h1
        simp only [zq] at h1
        simp only [clashD]
        refine zm (zj 48) cfn48 rfl (n := 26) rfl ?_
        generalize hF : finP cfg Tryd.f48 = F
        simp only [bW, if_true, Nat.reduceEqDiff, if_false, zl]
        repeat' first
          | (intro hb; first | cases hb | skip)
          | ((first | apply z8 | apply ze)
             · rfl
             · simp (disch := assumption) only [go_sem, Nat.reduceEqDiff, Nat.reduceAdd, bP, zf, Nat.reduceLeDiff, Nat.reduceLT, Nat.reduceMul, List.length_append, decide_eq_true_eq, z9, z6, Int.reduceToNat, Int.reduceLE, Int.reduceLT, Int.reduceBNe, Int.reduceBEq, h15]
               rfl
             · simp only [go_sem, Nat.reduceLT, Nat.reduceEqDiff]
               rfl
             · rfl
             first
             | (apply zd
                · simp only [z5, z0, Nat.reduceLT, decide_true, cond_true, ins]
                  rfl
                · simp only [z5, z0, Nat.reduceLT, decide_true, cond_true, ins]
                  rfl)
             | (apply zh
                · simp only [z5, z0, Nat.reduceLT, decide_true, cond_true, ins]
                  rfl))
          | ((first | apply zb | apply zc)
             · rfl
             · simp only [z5, z0, Nat.reduceLT, decide_true, cond_true, ins]
               rfl)
          | (apply za
             · simp only [go_sem, Nat.reduceEqDiff])
          | (apply z7
             · simp only [go_sem, Nat.reduceEqDiff])
          | (apply zg
             · kernel_rfl
             · kernel_rfl)
          | (simp only [bW, if_true, Nat.reduceEqDiff, if_false])
        refine zS (st1 := ⟨26, [(1, .lref 0 0 3 0), (13, I 0)], [(0, ⟨[zt p], 3, false⟩)], 1, 0⟩) lk48_5 (by kernel_rfl) ?_
        refine zk ?_
        try dsimp only [lp48_5, zz, zo, Tryd.f48]
        simp only [bW, if_true, Nat.reduceEqDiff, if_false]
        repeat' first
          | (intro hb; first | cases hb | skip)
          | ((first | apply z8 | apply ze)
             · rfl
             · simp (disch := assumption) only [go_sem, Nat.reduceEqDiff, Nat.reduceAdd, bP, zf, Nat.reduceLeDiff, Nat.reduceLT, Nat.reduceMul, List.length_append, decide_eq_true_eq, z9, z6, Int.reduceToNat, Int.reduceLE, Int.reduceLT, Int.reduceBNe, Int.reduceBEq, h0, whyD_one, pd_why, e1]
               rfl
             · simp only [go_sem, Nat.reduceLT, Nat.reduceEqDiff]
               rfl
             · rfl
             first
             | (apply zd
                · simp only [z5, z0, Nat.reduceLT, decide_true, cond_true, ins]
                  rfl
                · simp only [z5, z0, Nat.reduceLT, decide_true, cond_true, ins]
                  rfl)
             | (apply zh
                · simp only [z5, z0, Nat.reduceLT, decide_true, cond_true, ins]
                  rfl))
          | ((first | apply zb | apply zc)
             · rfl
             · simp only [z5, z0, Nat.reduceLT, decide_true, cond_true, ins]
               rfl)
          | (apply za
             · simp only [go_sem, Nat.reduceEqDiff])
          | (apply z7
             · simp only [go_sem, Nat.reduceEqDiff])
          | (apply zg
             · kernel_rfl
             · kernel_rfl)
          | (simp only [bW, if_true, Nat.reduceEqDiff, if_false])
        refine zu (st1 := ⟨26, [(1, .lref 0 0 3 0), (13, I 1)], [(0, ⟨[zt p], 3, false⟩)], 1, 0⟩) lk48_5 (by kernel_rfl) ?_
        refine zk ?_
        try dsimp only [lp48_5, zz, zo, Tryd.f48]
        simp only [bW, if_true, Nat.reduceEqDiff, if_false]
        repeat' first
          | (intro hb; first | cases hb | skip)
          | ((first | apply z8 | apply ze)
             · rfl
             · simp (disch := assumption) only [go_sem, Nat.reduceEqDiff, Nat.reduceAdd, bP, zf, Nat.reduceLeDiff, Nat.reduceLT, Nat.reduceMul, List.length_append, decide_eq_true_eq, z9, z6, Int.reduceToNat, Int.reduceLE, Int.reduceLT, Int.reduceBNe, Int.reduceBEq, h1, whyD_one, pd_why, e1]
               rfl
             · simp only [go_sem, Nat.reduceLT, Nat.reduceEqDiff]
               rfl
             · rfl
             first
             | (apply zd
                · simp only [z5, z0, Nat.reduceLT, decide_true, cond_true, ins]
                  rfl
                · simp only [z5, z0, Nat.reduceLT, decide_true, cond_true, ins]
                  rfl)
             | (apply zh
                · simp only [z5, z0, Nat.reduceLT, decide_true, cond_true, ins]
                  rfl))
          | ((first | apply zb | apply zc)
             · rfl
             · simp only [z5, z0, Nat.reduceLT, decide_true, cond_true, ins]
               rfl)
          | (apply za
             · simp only [go_sem, Nat.reduceEqDiff])
          | (apply z7
             · simp only [go_sem, Nat.reduceEqDiff])
          | (apply zg
             · kernel_rfl
             · kernel_rfl)
          | (simp only [bW, if_true, Nat.reduceEqDiff, if_false])
        subst hF
        simp only [go_sem, Nat.reduceEqDiff, bP, Nat.reduceAdd, Nat.reduceLeDiff, List.length_map, Tryd.f48, zG]
      | none =>
        rw [hc1] at h1
        simp only [zq] at h1
        simp only [clashD]
        refine zm (zj 48) cfn48 rfl (n := 26) rfl ?_
        generalize hF : finP cfg Tryd.f48 = F
        simp only [bW, if_true, Nat.reduceEqDiff, if_false, zl]
        repeat' first
          | (intro hb; first | cases hb | skip)
          | ((first | apply z8 | apply ze)
             · rfl
             · simp (disch := assumption) only [go_sem, Nat.reduceEqDiff, Nat.reduceAdd, bP, zf, Nat.reduceLeDiff, Nat.reduceLT, Nat.reduceMul, List.length_append, decide_eq_true_eq, z9, z6, Int.reduceToNat, Int.reduceLE, Int.reduceLT, Int.reduceBNe, Int.reduceBEq, h15]
               rfl
             · simp only [go_sem, Nat.reduceLT, Nat.reduceEqDiff]
               rfl
             · rfl
             first
             | (apply zd
                · simp only [z5, z0, Nat.reduceLT, decide_true, cond_true, ins]
                  rfl
                · simp only [z5, z0, Nat.reduceLT, decide_true, cond_true, ins]
                  rfl)
             | (apply zh
                · simp only [z5, z0, Nat.reduceLT, decide_true, cond_true, ins]
                  rfl))
          | ((first | apply zb | apply zc)
             · rfl
             · simp only [z5, z0, Nat.reduceLT, decide_true, cond_true, ins]
               rfl)
          | (apply za
             · simp only [go_sem, Nat.reduceEqDiff])
          | (apply z7
             · simp only [go_sem, Nat.reduceEqDiff])
          | (apply zg
             · kernel_rfl
             · kernel_rfl)
          | (simp only [bW, if_true, Nat.reduceEqDiff, if_false])
        refine zS (st1 := ⟨26, [(1, .lref 0 0 3 0), (13, I 0)], [(0, ⟨[zt p], 3, false⟩)], 1, 0⟩) lk48_5 (by kernel_rfl) ?_
        refine zk ?_
        try dsimp only [lp48_5, zz, zo, Tryd.f48]
        simp only [bW, if_true, Nat.reduceEqDiff, if_false]
        repeat' first
          | (intro hb; first | cases hb | skip)
          | ((first | apply z8 | apply ze)
             · rfl
             · simp (disch := assumption) only [go_sem, Nat.reduceEqDiff, Nat.reduceAdd, bP, zf, Nat.reduceLeDiff, Nat.reduceLT, Nat.reduceMul, List.length_append, decide_eq_true_eq, z9, z6, Int.reduceToNat, Int.reduceLE, Int.reduceLT, Int.reduceBNe, Int.reduceBEq, h0, whyD_one, pd_why, e1]
               rfl
             · simp only [go_sem, Nat.reduceLT, Nat.reduceEqDiff]
               rfl
             · rfl
             first
             | (apply zd
                · simp only [z5, z0, Nat.reduceLT, decide_true, cond_true, ins]
                  rfl
                · simp only [z5, z0, Nat.reduceLT, decide_true, cond_true, ins]
                  rfl)
             | (apply zh
                · simp only [z5, z0, Nat.reduceLT, decide_true, cond_true, ins]
                  rfl))
          | ((first | apply zb | apply zc)
             · rfl
             · simp only [z5, z0, Nat.reduceLT, decide_true, cond_true, ins]
               rfl)
          | (apply za
             · simp only [go_sem, Nat.reduceEqDiff])
          | (apply z7
             · simp only [go_sem, Nat.reduceEqDiff])
          | (apply zg
             · kernel_rfl
             · kernel_rfl)
          | (simp only [bW, if_true, Nat.reduceEqDiff, if_false])
        refine zu (st1 := ⟨26, [(1, .lref 0 0 3 0), (13, I 1)], [(0, ⟨[zt p], 3, false⟩)], 1, 0⟩) lk48_5 (by kernel_rfl) ?_
        refine zk ?_
        try dsimp only [lp48_5, zz, zo, Tryd.f48]
        simp only [bW, if_true, Nat.reduceEqDiff, if_false]
        repeat' first
          | (intro hb; first | cases hb | skip)
          | ((first | apply z8 | apply ze)
             · rfl
             · simp (disch := assumption) only [go_sem, Nat.reduceEqDiff, Nat.reduceAdd, bP, zf, Nat.reduceLeDiff, Nat.reduceLT, Nat.reduceMul, List.length_append, decide_eq_true_eq, z9, z6, Int.reduceToNat, Int.reduceLE, Int.reduceLT, Int.reduceBNe, Int.reduceBEq, h1, whyD_one, pd_why, e2]
               rfl
             · simp only [go_sem, Nat.reduceLT, Nat.reduceEqDiff]
               rfl
             · rfl
             first
             | (apply zd
                · simp only [z5, z0, Nat.reduceLT, decide_true, cond_true, ins]
                  rfl
                · simp only [z5, z0, Nat.reduceLT, decide_true, cond_true, ins]
                  rfl)
             | (apply zh
                · simp only [z5, z0, Nat.reduceLT, decide_true, cond_true, ins]
                  rfl))
          | ((first | apply zb | apply zc)
             · rfl
             · simp only [z5, z0, Nat.reduceLT, decide_true, cond_true, ins]
               rfl)
          | (apply za
             · simp only [go_sem, Nat.reduceEqDiff])
          | (apply z7
             · simp only [go_sem, Nat.reduceEqDiff])
          | (apply zg
             · kernel_rfl
             · kernel_rfl)
          | (simp only [bW, if_true, Nat.reduceEqDiff, if_false])
        refine zu (st1 := ⟨26, [(1, .lref 0 0 3 0), (13, I 2)], [(0, ⟨[zt p], 3, false⟩)], 1, 0⟩) lk48_5 (by kernel_rfl) ?_
        refine zk ?_
        try dsimp only [lp48_5, zz, zo, Tryd.f48]
        simp only [bW, if_true, Nat.reduceEqDiff, if_false]
        repeat' first
          | (intro hb; first | cases hb | skip)
          | ((first | apply z8 | apply ze)
             · rfl
             · simp (disch := assumption) only [go_sem, Nat.reduceEqDiff, Nat.reduceAdd, bP, zf, Nat.reduceLeDiff, Nat.reduceLT, Nat.reduceMul, List.length_append, decide_eq_true_eq, z9, z6, Int.reduceToNat, Int.reduceLE, Int.reduceLT, Int.reduceBNe, Int.reduceBEq, h1, whyD_one, pd_why, e2]
               rfl
             · simp only [go_sem, Nat.reduceLT, Nat.reduceEqDiff]
               rfl
             · rfl
             first
             | (apply zd
                · simp only [z5, z0, Nat.reduceLT, decide_true, cond_true, ins]
                  rfl
                · simp only [z5, z0, Nat.reduceLT, decide_true, cond_true, ins]
                  rfl)
             | (apply zh
                · simp only [z5, z0, Nat.reduceLT, decide_true, cond_true, ins]
                  rfl))
          | ((first | apply zb | apply zc)
             · rfl
             · simp only [z5, z0, Nat.reduceLT, decide_true, cond_true, ins]
               rfl)
          | (apply za
             · simp only [go_sem, Nat.reduceEqDiff])
          | (apply z7
             · simp only [go_sem, Nat.reduceEqDiff])
          | (apply zg
             · kernel_rfl
             · kernel_rfl)
          | (simp only [bW, if_true, Nat.reduceEqDiff, if_false])
        subst hF
        simp only [go_sem, Nat.reduceEqDiff, bP, Nat.reduceAdd, Nat.reduceLeDiff, List.length_map, Tryd.f48, zG]
theorem t49 (p : Paper) (s ax : Int) (g : Bool) (hwf : p.wf) : (lim cfg).pure 49 [zt p, I s, I ax, B g] = some (if zO p ax [s] = 0 then .tup [whyD (if g then downF p s ax else upF p s ax).why, I 0] else .tup [.sl true [] 0 none, I (zO p ax [s])]) := by
  have h71 := t71 p ax false [s] hwf 1 (by simp) (by simp) (by simp)
  simp only [List.map_cons, List.map_nil] at h71
  by_cases hk : zO p ax [s] = 0
  · rw [if_pos hk]
    rw [hk] at h71
    obtain ⟨hok, hp, hs, hax⟩ := known_zero.1 hk
    simp at hs
    have h100 := t100 p s ax hwf hok hs
    have h101 := t101 p s ax hwf hok hs
    simp only [zq] at h100 h101
    cases g with
    | true =>
      refine zm (zj 49) cfn49 rfl (n := 34) rfl ?_
      simp only [bW, if_true, Nat.reduceEqDiff, if_false, zl]
      repeat' first
        | (intro hb; first | cases hb | skip)
        | ((first | apply z8 | apply ze)
           · rfl
           · simp (disch := assumption) only [go_sem, Nat.reduceEqDiff, Nat.reduceAdd, bP, zf, Nat.reduceLeDiff, Nat.reduceLT, Nat.reduceMul, List.length_append, decide_eq_true_eq, z9, z6, Int.reduceToNat, Int.reduceLE, Int.reduceLT, Int.reduceBNe, Int.reduceBEq, h71, h100, h101, whyD_one, pd_why]
             rfl
           · simp only [go_sem, Nat.reduceLT, Nat.reduceEqDiff]
             rfl
           · rfl
           first
           | (apply zd
              · simp only [z5, z0, Nat.reduceLT, decide_true, cond_true, ins]
                rfl
              · simp only [z5, z0, Nat.reduceLT, decide_true, cond_true, ins]
                rfl)
           | (apply zh
              · simp only [z5, z0, Nat.reduceLT, decide_true, cond_true, ins]
                rfl))
        | ((first | apply zb | apply zc)
           · rfl
           · simp only [z5, z0, Nat.reduceLT, decide_true, cond_true, ins]
             rfl)
        | (apply za
           · simp only [go_sem, Nat.reduceEqDiff])
        | (apply z7
           · simp only [go_sem, Nat.reduceEqDiff])
        | (apply zg
           · kernel_rfl
           · kernel_rfl)
        | (simp only [bW, if_true, Nat.reduceEqDiff, if_false])
      all_goals simp only [go_sem, Nat.reduceEqDiff, bP, Nat.reduceAdd, Nat.reduceLeDiff, List.length_map, Tryd.f49, zG]
    | false =>
      refine zm (zj 49) cfn49 rfl (n := 34) rfl ?_
      simp only [bW, if_true, Nat.reduceEqDiff, if_false, zl]
      repeat' first
        | (intro hb; first | cases hb | skip)
        | ((first | apply z8 | apply ze)
           · rfl
           · simp (disch := assumption) only [go_sem, Nat.reduceEqDiff, Nat.reduceAdd, bP, zf, Nat.reduceLeDiff, Nat.reduceLT, Nat.reduceMul, List.length_append, decide_eq_true_eq, z9, z6, Int.reduceToNat, Int.reduceLE, Int.reduceLT, Int.reduceBNe, Int.reduceBEq, h71, h100, h101, whyD_one, pd_why]
             rfl
           · simp only [go_sem, Nat.reduceLT, Nat.reduceEqDiff]
             rfl
           · rfl
           first
           | (apply zd
              · simp only [z5, z0, Nat.reduceLT, decide_true, cond_true, ins]
                rfl
              · simp only [z5, z0, Nat.reduceLT, decide_true, cond_true, ins]
                rfl)
           | (apply zh
              · simp only [z5, z0, Nat.reduceLT, decide_true, cond_true, ins]
                rfl))
        | ((first | apply zb | apply zc)
           · rfl
           · simp only [z5, z0, Nat.reduceLT, decide_true, cond_true, ins]
             rfl)
        | (apply za
           · simp only [go_sem, Nat.reduceEqDiff])
        | (apply z7
           · simp only [go_sem, Nat.reduceEqDiff])
        | (apply zg
           · kernel_rfl
           · kernel_rfl)
        | (simp only [bW, if_true, Nat.reduceEqDiff, if_false])
      all_goals simp only [go_sem, Nat.reduceEqDiff, bP, Nat.reduceAdd, Nat.reduceLeDiff, List.length_map, Tryd.f49, zG]
  · rw [if_neg hk]
    have hne : (zO p ax [s] != 0) = true := by simp [hk]
    refine zm (zj 49) cfn49 rfl (n := 34) rfl ?_
    simp only [bW, if_true, Nat.reduceEqDiff, if_false, zl]
    repeat' first
      | (intro hb; first | cases hb | skip)
      | ((first | apply z8 | apply ze)
         · rfl
         · simp (disch := assumption) only [go_sem, Nat.reduceEqDiff, Nat.reduceAdd, bP, zf, Nat.reduceLeDiff, Nat.reduceLT, Nat.reduceMul, List.length_append, decide_eq_true_eq, z9, z6, Int.reduceToNat, Int.reduceLE, Int.reduceLT, Int.reduceBNe, Int.reduceBEq, h71, hne]
           rfl
         · simp only [go_sem, Nat.reduceLT, Nat.reduceEqDiff]
           rfl
         · rfl
         first
         | (apply zd
            · simp only [z5, z0, Nat.reduceLT, decide_true, cond_true, ins]
              rfl
            · simp only [z5, z0, Nat.reduceLT, decide_true, cond_true, ins]
              rfl)
         | (apply zh
            · simp only [z5, z0, Nat.reduceLT, decide_true, cond_true, ins]
              rfl))
      | ((first | apply zb | apply zc)
         · rfl
         · simp only [z5, z0, Nat.reduceLT, decide_true, cond_true, ins]
           rfl)
      | (apply za
         · simp only [go_sem, Nat.reduceEqDiff])
      | (apply z7
         · simp only [go_sem, Nat.reduceEqDiff])
      | (apply zg
         · kernel_rfl
         · kernel_rfl)
      | (simp only [bW, if_true, Nat.reduceEqDiff, if_false])
    all_goals try simp only [go_sem, Nat.reduceEqDiff, bP, Nat.reduceAdd, Nat.reduceLeDiff, List.length_map, Tryd.f49]
    all_goals first | done | rfl | (simp_all []; done) | trace_state


def eqW (x y : Reason) : Bool := (x.join == y.join) && ((x.at_ == y.at_) && (x.back == y.back))
def eqWs : List Reason → List Reason → Bool
  | [], [] => true
  | x :: a, y :: b => eqW x y && eqWs a b
  | _, _ => false
theorem L57_4 {F : Exit → St → Option D} (na nb : Bool) (sa sb : Nat) (a b : List Reason) (k : List Kt) (x : D) (hla : a.length ≤ 9223372036854775807) (hlen : a.length = b.length) (hna' : na = true → a = []) (hnb' : nb = true → b = []) (hsa : na = false → sa = 3) (hsb : nb = false → sb = 3) (hk : ∀ st, get st.tmps 4 = B false → zB cfg (lim cfg) 57 F k .ret st = some (B false)) : ∀ (ra rb : List Reason) (i : Nat), a.drop i = ra → b.drop i = rb → i ≤ a.length →
    (eqWs ra rb = true → zB cfg (lim cfg) 57 F k (.exit 0) ⟨26, [(14, B false), (0, .sl na (a.map encW) sa none), (1, .sl nb (b.map encW) sb none), (12, I a.length), (13, I (a.length : Nat))], [], 0, 0⟩ = some x) →
    (eqWs ra rb = false → x = B false) →
    EvL cfg (lim cfg) 57 F lp57_4 k ⟨26, [(0, .sl na (a.map encW) sa none), (1, .sl nb (b.map encW) sb none), (12, I a.length), (13, I (i : Nat))], [], 0, 0⟩ = some x := by
  intro ra
  induction ra with
  | nil =>
    intro rb i hd hdb hi h h'
    have hi' : i = a.length := by
      have := List.drop_eq_nil_iff.1 hd
      omega
    subst hi'
    have hrb : rb = [] := by rw [← hdb, List.drop_eq_nil_of_le (Nat.le_of_eq hlen.symm)]
    subst hrb
    refine zk ?_
    try dsimp only [lp57_4, zz, zo, Tryd.f57]
    simp only [bW, if_true, Nat.reduceEqDiff, if_false]
    repeat' first
      | (intro hb; first | cases hb | skip)
      | ((first | apply z8 | apply ze)
         · rfl
         · simp (disch := assumption) only [go_sem, Nat.reduceEqDiff, Nat.reduceAdd, bP, zf, Nat.reduceLeDiff, Nat.reduceLT, Nat.reduceMul, List.length_append, decide_eq_true_eq, z9, z6, Int.reduceToNat, Int.reduceLE, Int.reduceLT, Int.reduceBNe, Int.reduceBEq, Int.lt_irrefl]
           rfl
         · simp only [go_sem, Nat.reduceLT, Nat.reduceEqDiff]
           rfl
         · rfl
         first
         | (apply zd
            · simp only [z5, z0, Nat.reduceLT, decide_true, cond_true, ins]
              rfl
            · simp only [z5, z0, Nat.reduceLT, decide_true, cond_true, ins]
              rfl)
         | (apply zh
            · simp only [z5, z0, Nat.reduceLT, decide_true, cond_true, ins]
              rfl))
      | ((first | apply zb | apply zc)
         · rfl
         · simp only [z5, z0, Nat.reduceLT, decide_true, cond_true, ins]
           rfl)
      | (apply za
         · simp only [go_sem, Nat.reduceEqDiff])
      | (apply z7
         · simp only [go_sem, Nat.reduceEqDiff])
      | (apply zg
         · kernel_rfl
         · kernel_rfl)
      | (simp only [bW, if_true, Nat.reduceEqDiff, if_false])
    exact h rfl
  | cons m ra ih =>
    intro rb i hd hdb hi h h'
    have hlt : i < a.length := by
      rcases Nat.lt_or_ge i a.length with h | h
      · exact h
      · rw [List.drop_eq_nil_of_le h] at hd; cases hd
    obtain ⟨m', rb', hrb⟩ : ∃ m' rb', rb = m' :: rb' := by
      cases rb with
      | nil => exact absurd (List.drop_eq_nil_iff.1 hdb) (by omega)
      | cons y r => exact ⟨y, r, rfl⟩
    subst hrb
    have hm : a[i]? = some m := by rw [← List.head?_drop, hd]; rfl
    have hmb : b[i]? = some m' := by rw [← List.head?_drop, hdb]; rfl
    have hxa : (a.map encW)[i]? = some (.agg [B m.join, I m.at_, B m.back]) := by rw [List.getElem?_map, hm]; rfl
    have hxb : (b.map encW)[i]? = some (.agg [B m'.join, I m'.at_, B m'.back]) := by rw [List.getElem?_map, hmb]; rfl
    have hna : na = false := by
      cases h : na with
      | false => rfl
      | true => rw [hna' h] at hlt; cases hlt
    have hnb : nb = false := by
      cases h : nb with
      | false => rfl
      | true => rw [hnb' h, List.length_nil] at hlen; omega
    have hsa1 := hsa hna
    have hsb1 := hsb hnb
    clear hsa hsb
    subst hsa1 hsb1
    have hlt' : (i : Int) < (a.length : Int) := by omega
    have hw3 : IntKind.i64.wrap ((i : Int) + 1) = ((i + 1 : Nat) : Int) := by rw [wrap_i64 (by omega) (by omega)]; omega
    refine zk ?_
    try dsimp only [lp57_4, zz, zo, Tryd.f57]
    simp only [bW, if_true, Nat.reduceEqDiff, if_false]
    repeat' first
      | (intro hb; first | cases hb | skip)
      | ((first | apply z8 | apply ze)
         · rfl
         · simp (disch := assumption) only [go_sem, Nat.reduceEqDiff, Nat.reduceAdd, bP, zf, Nat.reduceLeDiff, Nat.reduceLT, Nat.reduceMul, List.length_append, decide_eq_true_eq, z9, z6, Int.reduceToNat, Int.reduceLE, Int.reduceLT, Int.reduceBNe, Int.reduceBEq, hxa, hxb, hna, hnb, hlt', hw3]
           rfl
         · simp only [go_sem, Nat.reduceLT, Nat.reduceEqDiff]
           rfl
         · rfl
         first
         | (apply zd
            · simp only [z5, z0, Nat.reduceLT, decide_true, cond_true, ins]
              rfl
            · simp only [z5, z0, Nat.reduceLT, decide_true, cond_true, ins]
              rfl)
         | (apply zh
            · simp only [z5, z0, Nat.reduceLT, decide_true, cond_true, ins]
              rfl))
      | ((first | apply zb | apply zc)
         · rfl
         · simp only [z5, z0, Nat.reduceLT, decide_true, cond_true, ins]
           rfl)
      | (apply za
         · simp only [go_sem, Nat.reduceEqDiff])
      | (apply z7
         · simp only [go_sem, Nat.reduceEqDiff])
      | (apply zg
         · kernel_rfl
         · kernel_rfl)
      | (simp only [bW, if_true, Nat.reduceEqDiff, if_false])
    · rw [h' (by simp only [Bool.and_true, Bool.not_eq_true'] at hb; simp only [eqWs, eqW, hb, Bool.false_and])]
      exact hk _ rfl
    · have he : eqW m m' = true := by simp only [Bool.and_true, Bool.not_eq_false'] at hb; exact hb
      simp only [eqWs, he, Bool.true_and] at h h'
      exact zu (st1 := ⟨26, [(0, .sl na (a.map encW) 3 none), (1, .sl nb (b.map encW) 3 none), (12, I a.length), (13, I (i + 1 : Nat))], [], 0, 0⟩) lk57_4 (by kernel_rfl) (ih rb' (i + 1) (by rw [← List.drop_drop, hd]; rfl) (by rw [← List.drop_drop, hdb]; rfl) hlt h h')
theorem t57 (na nb : Bool) (sa sb : Nat) (a b : List Reason) (hla : a.length ≤ 9223372036854775807) (hlb : b.length ≤ 9223372036854775807) (hna : na = true → a = []) (hnb : nb = true → b = []) (hsa : na = false → sa = 3) (hsb : nb = false → sb = 3) : (lim cfg).pure 57 [.sl na (a.map encW) sa none, .sl nb (b.map encW) sb none] = some (B (eqWs a b)) := by
  have ha := len_if (f := encW) hna
  have hb' := len_if (f := encW) hnb
  have hcast : ((a.length : Int) != (b.length : Int)) = !decide (a.length = b.length) := by
    by_cases h : a.length = b.length <;> simp [h]
    omega
  by_cases hl : a.length = b.length
  · have hd : decide (a.length = b.length) = true := by simp [hl]
    refine zm (zj 57) cfn57 rfl (n := 26) rfl ?_
    generalize hF : finP cfg Tryd.f57 = F
    simp only [bW, if_true, Nat.reduceEqDiff, if_false, zl]
    repeat' first
      | (intro hb; first | cases hb | skip)
      | ((first | apply z8 | apply ze)
         · rfl
         · simp (disch := assumption) only [go_sem, Nat.reduceEqDiff, Nat.reduceAdd, bP, zf, Nat.reduceLeDiff, Nat.reduceLT, Nat.reduceMul, List.length_append, decide_eq_true_eq, z9, z6, Int.reduceToNat, Int.reduceLE, Int.reduceLT, Int.reduceBNe, Int.reduceBEq, ha, hb', hcast, hd]
           rfl
         · simp only [go_sem, Nat.reduceLT, Nat.reduceEqDiff]
           rfl
         · rfl
         first
         | (apply zd
            · simp only [z5, z0, Nat.reduceLT, decide_true, cond_true, ins]
              rfl
            · simp only [z5, z0, Nat.reduceLT, decide_true, cond_true, ins]
              rfl)
         | (apply zh
            · simp only [z5, z0, Nat.reduceLT, decide_true, cond_true, ins]
              rfl))
      | ((first | apply zb | apply zc)
         · rfl
         · simp only [z5, z0, Nat.reduceLT, decide_true, cond_true, ins]
           rfl)
      | (apply za
         · simp only [go_sem, Nat.reduceEqDiff])
      | (apply z7
         · simp only [go_sem, Nat.reduceEqDiff])
      | (apply zg
         · kernel_rfl
         · kernel_rfl)
      | (simp only [bW, if_true, Nat.reduceEqDiff, if_false])
    have hend : ∀ v st, get st.tmps 4 = B v → F .ret st = some (B v) := by
      intro v st hd
      subst hF
      simp only [go_sem, Nat.reduceEqDiff, bP, Nat.reduceAdd, Nat.reduceLeDiff, List.length_map, Tryd.f57, hd]
    refine zS (st1 := ⟨26, [(0, .sl na (a.map encW) sa none), (1, .sl nb (b.map encW) sb none), (12, I a.length), (13, I (0 : Nat))], [], 0, 0⟩) lk57_4 (by kernel_rfl) (L57_4 na nb sa sb a b _ _ hla hl hna hnb hsa hsb (fun st hd => ?_) a b 0 rfl rfl (Nat.zero_le _) (fun he => ?_) (fun he => by rw [he]))
    · simp only [bW, if_true, Nat.reduceEqDiff, if_false]
      exact hend false st hd
    · rw [he]
      simp only [bW, if_true, Nat.reduceEqDiff, if_false]
      repeat' first
        | (intro hb; first | cases hb | skip)
        | ((first | apply z8 | apply ze)
           · rfl
           · simp (disch := assumption) only [go_sem, Nat.reduceEqDiff, Nat.reduceAdd, bP, zf, Nat.reduceLeDiff, Nat.reduceLT, Nat.reduceMul, List.length_append, decide_eq_true_eq, z9, z6, Int.reduceToNat, Int.reduceLE, Int.reduceLT, Int.reduceBNe, Int.reduceBEq]
             rfl
           · simp only [go_sem, Nat.reduceLT, Nat.reduceEqDiff]
             rfl
           · rfl
           first
           | (apply zd
              · simp only [z5, z0, Nat.reduceLT, decide_true, cond_true, ins]
                rfl
              · simp only [z5, z0, Nat.reduceLT, decide_true, cond_true, ins]
                rfl)
           | (apply zh
              · simp only [z5, z0, Nat.reduceLT, decide_true, cond_true, ins]
                rfl))
        | ((first | apply zb | apply zc)
           · rfl
           · simp only [z5, z0, Nat.reduceLT, decide_true, cond_true, ins]
             rfl)
        | (apply za
           · simp only [go_sem, Nat.reduceEqDiff])
        | (apply z7
           · simp only [go_sem, Nat.reduceEqDiff])
        | (apply zg
           · kernel_rfl
           · kernel_rfl)
        | (simp only [bW, if_true, Nat.reduceEqDiff, if_false])
      exact hend true _ rfl
  · have hd : decide (a.length = b.length) = false := by simp [hl]
    have hf : eqWs a b = false := by
      have key : ∀ (a b : List Reason), eqWs a b = true → a.length = b.length := by
        intro a
        induction a with
        | nil => intro b h; cases b with
          | nil => rfl
          | cons y b => simp [eqWs] at h
        | cons y a ih => intro b h; cases b with
          | nil => simp [eqWs] at h
          | cons z b => simp [eqWs] at h; simp [ih b h.2]
      cases h : eqWs a b with
      | false => rfl
      | true => exact absurd (key a b h) hl
    rw [hf]
    refine zm (zj 57) cfn57 rfl (n := 26) rfl ?_
    simp only [bW, if_true, Nat.reduceEqDiff, if_false, zl]
    repeat' first
      | (intro hb; first | cases hb | skip)
      | ((first | apply z8 | apply ze)
         · rfl
         · simp (disch := assumption) only [go_sem, Nat.reduceEqDiff, Nat.reduceAdd, bP, zf, Nat.reduceLeDiff, Nat.reduceLT, Nat.reduceMul, List.length_append, decide_eq_true_eq, z9, z6, Int.reduceToNat, Int.reduceLE, Int.reduceLT, Int.reduceBNe, Int.reduceBEq, ha, hb', hcast, hd]
           rfl
         · simp only [go_sem, Nat.reduceLT, Nat.reduceEqDiff]
           rfl
         · rfl
         first
         | (apply zd
            · simp only [z5, z0, Nat.reduceLT, decide_true, cond_true, ins]
              rfl
            · simp only [z5, z0, Nat.reduceLT, decide_true, cond_true, ins]
              rfl)
         | (apply zh
            · simp only [z5, z0, Nat.reduceLT, decide_true, cond_true, ins]
              rfl))
      | ((first | apply zb | apply zc)
         · rfl
         · simp only [z5, z0, Nat.reduceLT, decide_true, cond_true, ins]
           rfl)
      | (apply za
         · simp only [go_sem, Nat.reduceEqDiff])
      | (apply z7
         · simp only [go_sem, Nat.reduceEqDiff])
      | (apply zg
         · kernel_rfl
         · kernel_rfl)
      | (simp only [bW, if_true, Nat.reduceEqDiff, if_false])
    all_goals try simp only [go_sem, Nat.reduceEqDiff, bP, Nat.reduceAdd, Nat.reduceLeDiff, List.length_map, Tryd.f57]
    all_goals first | done | rfl | (simp_all []; done) | trace_state


end Go.VS
/-
  Walks over at most five nodes: what a walk's quotient comes to; a walk may be shortened to four zA if no short closed walk comes to less than one. (A text of this claim's own; nothing of it is trusted.)
-/
namespace Go.VS.Walks
structure T where
  src : Nat
  dst : Nat
  w : Rat
def Ch (E : T → Prop) : Nat → List T → Nat → Prop
  | a, [], b => a = b
  | a, t :: r, b => E t ∧ t.src = a ∧ Ch E t.dst r b
def pr : List T → Rat
  | [] => 1
  | t :: r => t.w * pr r
theorem pr_append (l r : List T) : pr (l ++ r) = pr l * pr r := by
  induction l with
  | nil => simp [pr, Rat.one_mul]
  | cons t l ih => simp only [List.cons_append, pr, ih, Rat.mul_assoc]
theorem ch_append {E : T → Prop} {l r : List T} {a b : Nat} : Ch E a (l ++ r) b ↔ ∃ c, Ch E a l c ∧ Ch E c r b := by
  induction l generalizing a with
  | nil => simp [Ch]
  | cons t l ih =>
    simp only [List.cons_append, Ch, ih]
    constructor
    · rintro ⟨h1, h2, c, h3, h4⟩; exact ⟨c, ⟨h1, h2, h3⟩, h4⟩
    · rintro ⟨c, ⟨h1, h2, h3⟩, h4⟩; exact ⟨h1, h2, c, h3, h4⟩
theorem ch_one {E : T → Prop} {t : T} (h : E t) : Ch E t.src [t] t.dst := ⟨h, rfl, rfl⟩
theorem pr_pos {E : T → Prop} (hp : ∀ t, E t → 0 < t.w) {l : List T} : ∀ {a b}, Ch E a l b → 0 < pr l := by
  induction l with
  | nil => intro a b _; exact (by decide : (0 : Rat) < 1)
  | cons t l ih => intro a b h; exact Rat.mul_pos (hp t h.1) (ih h.2.2)
theorem nodup_len : ∀ (n : Nat) (l : List Nat), l.Nodup → (∀ x ∈ l, x < n) → l.length ≤ n := by
  intro n
  induction n with
  | zero =>
    intro l _ h
    cases l with
    | nil => exact Nat.le_refl _
    | cons x r => exact absurd (h x List.mem_cons_self) (Nat.not_lt_zero _)
  | succ n ih =>
    intro l hl h
    have h1 := ih (l.erase n) (hl.erase n) (fun x hx => by
      have h2 := h x (List.mem_of_mem_erase hx)
      have h3 : x ≠ n := fun e => by
        subst e
        exact absurd hx (hl.not_mem_erase)
      omega)
    rw [List.length_erase] at h1
    split at h1 <;> omega
theorem ch_split {E : T → Prop} {l : List T} : ∀ {a b c : Nat}, Ch E a l b → c ∈ l.map T.dst → ∃ l1 l2, l = l1 ++ l2 ∧ l1 ≠ [] ∧ Ch E a l1 c ∧ Ch E c l2 b := by
  induction l with
  | nil => intro a b c _ h; cases h
  | cons t l ih =>
    intro a b c h hc
    rcases List.mem_cons.1 hc with rfl | hc
    · exact ⟨[t], l, rfl, by simp, ⟨h.1, h.2.1, rfl⟩, h.2.2⟩
    · obtain ⟨l1, l2, rfl, h1, h2, h3⟩ := ih h.2.2 hc
      exact ⟨t :: l1, l2, rfl, by simp, ⟨h.1, h.2.1, h2⟩, h3⟩
theorem ch_loop {E : T → Prop} {l : List T} : ∀ {a b : Nat}, Ch E a l b → (a :: l.map T.dst).Nodup ∨ ∃ l1 l2 l3 c, l = l1 ++ (l2 ++ l3) ∧ l2 ≠ [] ∧ Ch E a l1 c ∧ Ch E c l2 c ∧ Ch E c l3 b := by
  induction l with
  | nil => intro a b _; exact .inl (by simp)
  | cons t l ih =>
    intro a b h
    by_cases ha : a ∈ (t :: l).map T.dst
    · obtain ⟨l1, l2, e, h1, h2, h3⟩ := ch_split h ha
      exact .inr ⟨[], l1, l2, a, e, h1, rfl, h2, h3⟩
    · rcases ih h.2.2 with hn | ⟨l1, l2, l3, c, rfl, h1, h2, h3, h4⟩
      · exact .inl (List.nodup_cons.2 ⟨ha, hn⟩)
      · exact .inr ⟨t :: l1, l2, l3, c, rfl, h1, ⟨h.1, h.2.1, h2⟩, h3, h4⟩
theorem ch_nodes {E : T → Prop} {N : Nat} (hn : ∀ t, E t → t.src < N ∧ t.dst < N) {l : List T} : ∀ {a b : Nat}, Ch E a l b → ∀ x ∈ l.map T.dst, x < N := by
  induction l with
  | nil => intro a b _ x hx; cases hx
  | cons t l ih =>
    intro a b h x hx
    rcases List.mem_cons.1 hx with rfl | hx
    · exact (hn t h.1).2
    · exact ih h.2.2 x hx
/-- No short closed walk comes to less than one. -/
def Fair (E : T → Prop) (N : Nat) : Prop := ∀ a l, Ch E a l a → l.length ≤ N → 1 ≤ pr l
theorem shorten {E : T → Prop} {N : Nat} (hp : ∀ t, E t → 0 < t.w) (hn : ∀ t, E t → t.src < N ∧ t.dst < N) (hf : Fair E N) : ∀ (n : Nat) (l : List T), l.length ≤ n → ∀ {a b : Nat}, Ch E a l b → ∃ r, Ch E a r b ∧ (r.length < N ∨ r = []) ∧ pr r ≤ pr l ∧ (l.length < N → r = l) := by
  intro n
  induction n with
  | zero =>
    intro l hl a b h
    have : l = [] := List.length_eq_zero_iff.1 (by omega)
    exact ⟨l, h, .inr this, Rat.le_refl, fun _ => rfl⟩
  | succ n ih =>
    intro l hl a b h
    by_cases hN : l.length < N
    · exact ⟨l, h, .inl hN, Rat.le_refl, fun _ => rfl⟩
    · cases l with
      | nil => exact ⟨[], h, .inr rfl, Rat.le_refl, fun _ => rfl⟩
      | cons t0 l0 =>
      have hl' : (t0 :: l0) = (t0 :: l0).take N ++ (t0 :: l0).drop N := (List.take_append_drop N _).symm
      generalize hL : t0 :: l0 = l at *
      rw [hl'] at h
      obtain ⟨m, h1, h2⟩ := ch_append.1 h
      have ha : a < N := by
        rw [← hl', ← hL] at h
        have := (hn t0 h.1).1
        rw [h.2.1] at this
        exact this
      have hlen : (l.take N).length = N := by rw [List.length_take]; omega
      rcases ch_loop h1 with hd | ⟨l1, l2, l3, c, e, g1, g2, g3, g4⟩
      · have := nodup_len N _ hd (fun x hx => by
          rcases List.mem_cons.1 hx with rfl | hx
          · exact ha
          · exact ch_nodes hn h1 x hx)
        simp at this
        omega
      · have hone : 1 ≤ pr l2 := hf c l2 g3 (by
          have := congrArg List.length e
          simp only [List.length_append] at this
          omega)
        have hpos : 0 < l2.length := by
          cases l2 with
          | nil => exact absurd rfl g1
          | cons _ _ => simp
        have el : l = l1 ++ (l2 ++ (l3 ++ l.drop N)) := by
          conv => lhs; rw [hl', e]
          simp only [List.append_assoc]
        have hr : Ch E a (l1 ++ (l3 ++ l.drop N)) b := ch_append.2 ⟨c, g2, ch_append.2 ⟨m, g4, h2⟩⟩
        have hle : (l1 ++ (l3 ++ l.drop N)).length ≤ n := by
          have := congrArg List.length el
          simp only [List.length_append] at this ⊢
          omega
        obtain ⟨r, r1, r2, r3, _⟩ := ih _ hle hr
        refine ⟨r, r1, r2, Rat.le_trans r3 ?_, fun h => absurd h hN⟩
        have p1 : 0 < pr l1 := pr_pos hp g2
        have p3 : 0 < pr (l3 ++ l.drop N) := pr_pos hp (ch_append.2 ⟨m, g4, h2⟩)
        have q1 : pr (l3 ++ l.drop N) ≤ pr l2 * pr (l3 ++ l.drop N) := by
          have := Rat.mul_le_mul_of_nonneg_right hone (Rat.le_of_lt p3)
          rwa [Rat.one_mul] at this
        have q2 := Rat.mul_le_mul_of_nonneg_left q1 (Rat.le_of_lt p1)
        have e1 : pr l = pr l1 * (pr l2 * pr (l3 ++ l.drop N)) := by
          rw [← pr_append l2, ← pr_append l1]
          exact congrArg pr el
        rw [e1, pr_append l1]
        exact q2
theorem closed_one {E : T → Prop} {N : Nat} (hp : ∀ t, E t → 0 < t.w) (hn : ∀ t, E t → t.src < N ∧ t.dst < N) (hf : Fair E N) {a : Nat} {l : List T} (h : Ch E a l a) : 1 ≤ pr l := by
  obtain ⟨r, r1, r2, r3, _⟩ := shorten hp hn hf _ l (Nat.le_refl _) h
  refine Rat.le_trans (hf a r r1 ?_) r3
  rcases r2 with r2 | rfl
  · omega
  · exact Nat.zero_le _

/-! ### quotients of numbers -/
def vq (n d : Int) : Rat := Rat.divInt n d
theorem vq_cancel {n d : Int} (hd : 0 < d) : vq n d * (d : Rat) = n := by
  unfold vq
  rw [Rat.divInt_eq_div, Rat.div_mul_cancel]
  intro h
  have := Rat.intCast_eq_zero_iff.1 h
  omega
theorem vq_scale {n d d' : Int} (hd : 0 < d) : vq n d * ((d : Rat) * (d' : Rat)) = ((n * d' : Int) : Rat) := by
  rw [← Rat.mul_assoc, vq_cancel hd, Rat.intCast_mul]
theorem vq_lt {n d n' d' : Int} (hd : 0 < d) (hd' : 0 < d') : vq n d < vq n' d' ↔ n * d' < n' * d := by
  have h1 : (0 : Rat) < (d : Rat) * (d' : Rat) := Rat.mul_pos (Rat.intCast_pos.2 hd) (Rat.intCast_pos.2 hd')
  rw [← Rat.mul_lt_mul_right h1, vq_scale hd, Rat.mul_comm (d : Rat), vq_scale hd', Rat.intCast_lt_intCast]
theorem vq_le {n d n' d' : Int} (hd : 0 < d) (hd' : 0 < d') : vq n d ≤ vq n' d' ↔ n * d' ≤ n' * d := by
  rw [← Rat.not_lt, vq_lt hd' hd, Int.not_lt]
theorem vq_mul (a b c d : Int) : vq a b * vq c d = vq (a * c) (b * d) := Rat.divInt_mul_divInt a c
theorem vq_low {n d g : Int} (hg : 0 < g) (h1 : g ∣ n) (h2 : g ∣ d) : vq (n / g) (d / g) = vq n d := by
  obtain ⟨a, rfl⟩ := h1
  obtain ⟨b, rfl⟩ := h2
  rw [Int.mul_ediv_cancel_left _ (by omega), Int.mul_ediv_cancel_left _ (by omega)]
  exact (Rat.divInt_mul_left (by omega)).symm
theorem vq_eq {n d n' d' : Int} (hd : 0 < d) (hd' : 0 < d') (hg : Int.gcd d n = 1) (hg' : Int.gcd d' n' = 1) (h : vq n d = vq n' d') : n = n' ∧ d = d' := by
  unfold vq at h
  have a1 := Rat.num_divInt n d
  have a2 := Rat.num_divInt n' d'
  have b1 := Rat.den_divInt n d
  have b2 := Rat.den_divInt n' d'
  rw [h] at a1 b1
  rw [a1] at a2
  rw [b1] at b2
  rw [hg, hg', Int.sign_eq_one_of_pos hd, Int.sign_eq_one_of_pos hd'] at a2
  rw [hg, hg', if_neg (by omega), if_neg (by omega)] at b2
  simp at a2 b2
  omega
theorem vq_one : vq 1 1 = 1 := by decide
theorem vq_pos {n d : Int} (hn : 0 < n) (hd : 0 < d) : 0 < vq n d := by
  have h := (vq_lt (n := 0) (d := 1) (by omega) hd).2 (by omega : 0 * d < n * 1)
  have e : vq 0 1 = 0 := by decide
  rwa [e] at h
end Go.VS.Walks
/-
  What the chains of a paper are: the least quotients of walks. (A text of this claim's own; nothing of it is trusted.)
-/
namespace Go.VS
open Go Go.VS.Walks
def vR (r : Ratio) : Rat := vq r.n r.d
def tE (e : Edge) : T := ⟨e.src.toNat, e.dst.toNat, vR e.q⟩
def inE (es : List Edge) (t : T) : Prop := ∃ e, e ∈ es ∧ tE e = t
def prE (w : List Edge) : Rat := pr (w.map tE)
/-- A walk along zA. -/
def Wk (es : List Edge) (a : Nat) (w : List Edge) (b : Nat) : Prop := Ch (inE es) a (w.map tE) b ∧ ∀ e ∈ w, e ∈ es
theorem wk_nil (es : List Edge) (a : Nat) : Wk es a [] a := ⟨rfl, fun _ h => by cases h⟩
theorem wk_append {es w v : List Edge} {a b c : Nat} (h1 : Wk es a w b) (h2 : Wk es b v c) : Wk es a (w ++ v) c := by
  refine ⟨by rw [List.map_append]; exact ch_append.2 ⟨b, h1.1, h2.1⟩, fun e he => ?_⟩
  rcases List.mem_append.1 he with he | he
  · exact h1.2 e he
  · exact h2.2 e he
theorem wk_one {es : List Edge} {e : Edge} (he : e ∈ es) : Wk es e.src.toNat [e] e.dst.toNat :=
  ⟨⟨⟨e, he, rfl⟩, rfl, rfl⟩, fun e' h => by rcases List.mem_singleton.1 h with rfl; exact he⟩
theorem wk_snoc {es w : List Edge} {a : Nat} {e : Edge} (h1 : Wk es a w e.src.toNat) (he : e ∈ es) : Wk es a (w ++ [e]) e.dst.toNat := wk_append h1 (wk_one he)
theorem wk_unsnoc {es w : List Edge} {a b : Nat} {e : Edge} (h : Wk es a (w ++ [e]) b) : Wk es a w e.src.toNat ∧ e ∈ es ∧ e.dst.toNat = b := by
  have hm := h.2 e (by simp)
  have h1 := h.1
  rw [List.map_append] at h1
  obtain ⟨c, h2, h3⟩ := ch_append.1 h1
  refine ⟨⟨?_, fun e' he => h.2 e' (by simp [he])⟩, hm, h3.2.2⟩
  rw [show e.src.toNat = c from h3.2.1]
  exact h2
theorem prE_append (w v : List Edge) : prE (w ++ v) = prE w * prE v := by unfold prE; rw [List.map_append, pr_append]
theorem prE_snoc (w : List Edge) (e : Edge) : prE (w ++ [e]) = prE w * vR e.q := by
  rw [prE_append]
  show _ * (vR e.q * 1) = _
  rw [Rat.mul_one]
theorem prE_nil : prE [] = 1 := rfl
/-- A ratio of positive numbers in its lowest terms. -/
def redR (r : Ratio) : Prop := 1 ≤ r.n ∧ 1 ≤ r.d ∧ Int.gcd r.d r.n = 1
theorem red_pos {r : Ratio} (h : redR r) : 0 < vR r := vq_pos (by have := h.1; omega) (by have := h.2.1; omega)
theorem red_eq {a b : Ratio} (ha : redR a) (hb : redR b) (h : vR a = vR b) : a = b := by
  obtain ⟨e1, e2⟩ := vq_eq (by have := ha.2.1; omega) (by have := hb.2.1; omega) ha.2.2 hb.2.2 h
  cases a; cases b; simp only at e1 e2; rw [e1, e2]
theorem ltR_iff {a b : Ratio} (ha : 1 ≤ a.d) (hb : 1 ≤ b.d) : ltR a b = true ↔ vR a < vR b := by
  unfold ltR vR
  rw [vq_lt (by omega) (by omega), decide_eq_true_eq]
theorem low_red {n d : Int} (hn : 1 ≤ n) (hd : 1 ≤ d) : redR (lowR n d) ∧ vR (lowR n d) = vq n d := by
  obtain ⟨a, rfl⟩ := Int.eq_ofNat_of_zero_le (show 0 ≤ n by omega)
  obtain ⟨b, rfl⟩ := Int.eq_ofNat_of_zero_le (show 0 ≤ d by omega)
  have hg : 0 < a.gcd b := Nat.gcd_pos_of_pos_left b (by omega)
  have e1 : (a : Int) / gcdI a b = ((a / a.gcd b : Nat) : Int) := by simp [gcdI]
  have e2 : (b : Int) / gcdI a b = ((b / a.gcd b : Nat) : Int) := by simp [gcdI]
  have p1 : 0 < a / a.gcd b := Nat.div_pos (Nat.le_of_dvd (by omega) (Nat.gcd_dvd_left a b)) hg
  have p2 : 0 < b / a.gcd b := Nat.div_pos (Nat.le_of_dvd (by omega) (Nat.gcd_dvd_right a b)) hg
  refine ⟨⟨?_, ?_, ?_⟩, ?_⟩
  · show 1 ≤ (a : Int) / gcdI a b
    rw [e1]; omega
  · show 1 ≤ (b : Int) / gcdI a b
    rw [e2]; omega
  · show Int.gcd ((b : Int) / gcdI a b) ((a : Int) / gcdI a b) = 1
    rw [e1, e2, Int.gcd_natCast_natCast, Nat.gcd_comm]
    exact Nat.coprime_div_gcd_div_gcd hg
  · unfold vR lowR
    refine vq_low (by simp only [gcdI, Int.toNat_natCast]; omega) ?_ ?_
    · simp only [gcdI, Int.toNat_natCast]; exact Int.natCast_dvd_natCast.2 (Nat.gcd_dvd_left a b)
    · simp only [gcdI, Int.toNat_natCast]; exact Int.natCast_dvd_natCast.2 (Nat.gcd_dvd_right a b)
/-- A chain is what a walk comes to. -/
def RealC (es : List Edge) (src n b : Nat) (c : Chn) : Prop := ∃ w, w.length = n ∧ Wk es src w b ∧ vR c.q = prE w ∧ c.why = w.map Edge.why ∧ redR c.q
theorem real_with {es : List Edge} {src n : Nat} {c : Chn} {e : Edge} (hb : edgeB e) (he : e ∈ es) (h : RealC es src n e.src.toNat c) : RealC es src (n + 1) e.dst.toNat (withC c e) ∧ vR (withC c e).q = vR c.q * vR e.q := by
  obtain ⟨w, h1, h2, h3, h4, h5⟩ := h
  have hn : 1 ≤ c.q.n * e.q.n := by have := Int.mul_le_mul h5.1 hb.2.2.2.2.1 (by omega) (by have := h5.1; omega); omega
  have hd : 1 ≤ c.q.d * e.q.d := by have := Int.mul_le_mul h5.2.1 hb.2.2.2.2.2.2.1 (by omega) (by have := h5.2.1; omega); omega
  obtain ⟨l1, l2⟩ := low_red hn hd
  have hv : vR (withC c e).q = vR c.q * vR e.q := by
    unfold vR withC
    simp only
    rw [show vq (lowR (c.q.n * e.q.n) (c.q.d * e.q.d)).n (lowR (c.q.n * e.q.n) (c.q.d * e.q.d)).d = vR (lowR (c.q.n * e.q.n) (c.q.d * e.q.d)) from rfl, l2, vq_mul]
  refine ⟨⟨w ++ [e], by simp [h1], wk_snoc h2 he, by rw [hv, prE_snoc, h3], by simp [withC, h4], l1⟩, hv⟩
def redN (net : Net) : Prop := ∀ (j : Nat) (c : Chn), net[j]? = some (some c) → redR c.q
theorem put_self {next : Net} {j : Nat} {c : Chn} (hj : j < next.length) (hr : redN next) (hc : redR c.q) :
    ∃ c', (putE next j c)[j]? = some (some c') ∧ vR c'.q ≤ vR c.q ∧ (c' = c ∨ next[j]? = some (some c')) ∧ ∀ b, next[j]? = some (some b) → vR c'.q ≤ vR b.q := by
  unfold putE
  split
  · rename_i b hb
    have hbr := hr j b hb
    split
    · rename_i hlt
      have := (ltR_iff hc.2.1 hbr.2.1).1 hlt
      refine ⟨c, by rw [List.getElem?_set]; simp [hj], Rat.le_refl, .inl rfl, fun b' hb' => ?_⟩
      rw [hb] at hb'; cases hb'
      exact Rat.le_of_lt this
    · rename_i hlt
      refine ⟨b, hb, ?_, .inr hb, fun b' hb' => by rw [hb] at hb'; cases hb'; exact Rat.le_refl⟩
      rw [← Rat.not_lt]
      exact fun h => hlt ((ltR_iff hc.2.1 hbr.2.1).2 h)
  · rename_i hno
    exact ⟨c, by rw [List.getElem?_set]; simp [hj], Rat.le_refl, .inl rfl, fun b hb => absurd hb (fun h => hno b h)⟩
theorem put_other {next : Net} {i j : Nat} {c : Chn} (h : i ≠ j) : (putE next j c)[i]? = next[i]? := by
  unfold putE
  split
  · split
    · rw [List.getElem?_set_ne (Ne.symm h)]
    · rfl
  · rw [List.getElem?_set_ne (Ne.symm h)]
theorem put_len {next : Net} {j : Nat} {c : Chn} : (putE next j c).length = next.length := by
  unfold putE; split <;> (try split) <;> simp
theorem put_red {next : Net} {j : Nat} {c : Chn} (hr : redN next) (hc : redR c.q) : redN (putE next j c) := by
  intro i c' hi
  by_cases h : i = j
  · subst h
    by_cases hl : i < next.length
    · obtain ⟨d, h1, _, h3, _⟩ := put_self hl hr hc
      rw [h1] at hi; cases hi
      rcases h3 with rfl | h3
      · exact hc
      · exact hr _ _ h3
    · have : (putE next i c).length ≤ i := by rw [put_len]; omega
      rw [List.getElem?_eq_none this] at hi; cases hi
  · rw [put_other h] at hi; exact hr _ _ hi
/-- All that a net says of walks of n zA. -/
def Exact (es : List Edge) (src n : Nat) (net : Net) : Prop := net.length = 5 ∧ (∀ b c, net[b]? = some (some c) → RealC es src n b c) ∧ ∀ b w, w.length = n → Wk es src w b → ∃ c, net[b]? = some (some c) ∧ vR c.q ≤ prE w
def Half (es : List Edge) (src n : Nat) (now : Net) (done : List Edge) (next : Net) : Prop :=
  next.length = 5 ∧ (∀ b c, next[b]? = some (some c) → RealC es src (n + 1) b c) ∧ ∀ e ∈ done, ∀ c', now[e.src.toNat]? = some (some c') → ∃ c, next[e.dst.toNat]? = some (some c) ∧ vR c.q ≤ vR c'.q * vR e.q
theorem real_red {es : List Edge} {src n b : Nat} {c : Chn} (h : RealC es src n b c) : redR c.q := h.choose_spec.2.2.2.2
theorem half_step {es : List Edge} {src n : Nat} {now next : Net} {done : List Edge} {e : Edge} (hnow : Exact es src n now) (hb : edgeB e) (he : e ∈ es) (h : Half es src n now done next) : Half es src n now (done ++ [e]) (stepE now next e) := by
  obtain ⟨h1, h2, h3⟩ := h
  have hr : redN next := fun j c hj => real_red (h2 j c hj)
  have hdst : e.dst.toNat < next.length := by have := hb.2.2.1; have := hb.2.2.2.1; omega
  unfold stepE
  split
  · rename_i c0 hc0
    obtain ⟨r1, r2⟩ := real_with hb he (hnow.2.1 _ _ hc0)
    obtain ⟨c', s1, s2, s3, s4⟩ := put_self hdst hr (real_red r1)
    refine ⟨by rw [put_len]; exact h1, fun b c hbc => ?_, fun e' he' c1 hc1 => ?_⟩
    · by_cases hbe : b = e.dst.toNat
      · subst hbe
        rw [s1] at hbc; cases hbc
        rcases s3 with rfl | s3
        · exact r1
        · exact h2 _ _ s3
      · rw [put_other hbe] at hbc; exact h2 _ _ hbc
    · rcases List.mem_append.1 he' with he' | he'
      · obtain ⟨c2, k1, k2⟩ := h3 e' he' c1 hc1
        by_cases hbe : e'.dst.toNat = e.dst.toNat
        · rw [hbe] at k1 ⊢
          exact ⟨c', s1, Rat.le_trans (s4 c2 k1) k2⟩
        · exact ⟨c2, by rw [put_other hbe]; exact k1, k2⟩
      · rcases List.mem_singleton.1 he' with rfl
        rw [hc0] at hc1; cases hc1
        exact ⟨c', s1, by rw [← r2]; exact s2⟩
  · rename_i hno
    refine ⟨h1, h2, fun e' he' c1 hc1 => ?_⟩
    rcases List.mem_append.1 he' with he' | he'
    · exact h3 e' he' c1 hc1
    · rcases List.mem_singleton.1 he' with rfl
      exact absurd hc1 (hno c1)
theorem half_fold {es : List Edge} {src n : Nat} {now : Net} (hnow : Exact es src n now) : ∀ (l done : List Edge) (next : Net), (∀ e ∈ l, edgeB e ∧ e ∈ es) → Half es src n now done next → Half es src n now (done ++ l) (l.foldl (stepE now) next)
  | [], done, next, _, h => by rw [List.append_nil]; exact h
  | e :: l, done, next, hl, h => by
    have := half_fold hnow l (done ++ [e]) (stepE now next e) (fun e' he' => hl e' (List.mem_cons_of_mem _ he')) (half_step hnow (hl e (by simp)).1 (hl e (by simp)).2 h)
    rw [List.append_assoc] at this
    exact this
theorem edge_pos {e : Edge} (h : edgeB e) : 0 < vR e.q := vq_pos (by have := h.2.2.2.2.1; omega) (by have := h.2.2.2.2.2.2.1; omega)
theorem snoc_of {w : List Edge} {n : Nat} (h : w.length = n + 1) : ∃ v e, w = v ++ [e] ∧ v.length = n := by
  have hne : w ≠ [] := by intro h'; rw [h'] at h; simp at h
  refine ⟨w.dropLast, w.getLast hne, (List.dropLast_concat_getLast hne).symm, ?_⟩
  rw [List.length_dropLast]; omega
theorem exact_step {es : List Edge} {src n : Nat} {now : Net} (hes : ∀ e ∈ es, edgeB e) (hnow : Exact es src n now) : Exact es src (n + 1) (es.foldl (stepE now) zU) := by
  have h0 : Half es src n now [] zU := ⟨rfl, fun b c h => by
    have hm := List.mem_of_getElem? h
    simp [zU] at hm, fun e he => by cases he⟩
  obtain ⟨h1, h2, h3⟩ := half_fold hnow es [] zU (fun e he => ⟨hes e he, he⟩) h0
  rw [List.nil_append] at h3
  refine ⟨h1, h2, fun b w hw hk => ?_⟩
  obtain ⟨v, e, rfl, hv⟩ := snoc_of hw
  obtain ⟨k1, k2, rfl⟩ := wk_unsnoc hk
  obtain ⟨c', g1, g2⟩ := hnow.2.2 _ v hv k1
  obtain ⟨c, f1, f2⟩ := h3 e k2 c' g1
  refine ⟨c, f1, Rat.le_trans f2 ?_⟩
  rw [prE_snoc]
  exact Rat.mul_le_mul_of_nonneg_right g2 (Rat.le_of_lt (edge_pos (hes e k2)))
theorem merge_spec : ∀ (l : List (Option Chn)) (i : Nat) (out : Net), i + l.length ≤ out.length → redN out → (∀ c, some c ∈ l → redR c.q) →
    (mergeL l i out).length = out.length ∧ redN (mergeL l i out) ∧ ∀ b,
      (∀ c, (mergeL l i out)[b]? = some (some c) → out[b]? = some (some c) ∨ (i ≤ b ∧ l[b - i]? = some (some c))) ∧
      (∀ c, out[b]? = some (some c) → ∃ c', (mergeL l i out)[b]? = some (some c') ∧ vR c'.q ≤ vR c.q) ∧
      (∀ c, i ≤ b → l[b - i]? = some (some c) → ∃ c', (mergeL l i out)[b]? = some (some c') ∧ vR c'.q ≤ vR c.q)
  | [], i, out, _, hr, _ => ⟨rfl, hr, fun b => ⟨fun c h => .inl h, fun c h => ⟨c, h, Rat.le_refl⟩, fun c _ h => by cases h⟩⟩
  | none :: r, i, out, hl, hr, hc => by
    obtain ⟨m1, m2, m3⟩ := merge_spec r (i + 1) out (by simp at hl; omega) hr (fun c h => hc c (List.mem_cons_of_mem _ h))
    refine ⟨m1, m2, fun b => ⟨fun c h => ?_, (m3 b).2.1, fun c hib h => ?_⟩⟩
    · rcases (m3 b).1 c h with h | ⟨h, h'⟩
      · exact .inl h
      · refine .inr ⟨by omega, ?_⟩
        rw [show b - i = (b - (i + 1)) + 1 by omega, List.getElem?_cons_succ]; exact h'
    · by_cases hb : b = i
      · subst hb; rw [Nat.sub_self, List.getElem?_cons_zero] at h; cases h
      · refine (m3 b).2.2 c (by omega) ?_
        rw [show b - i = (b - (i + 1)) + 1 by omega, List.getElem?_cons_succ] at h; exact h
  | some c0 :: r, i, out, hl, hr, hc => by
    have hc0 := hc c0 (by simp)
    have hi : i < out.length := by simp at hl; omega
    obtain ⟨m1, m2, m3⟩ := merge_spec r (i + 1) (putE out i c0) (by rw [put_len]; simp at hl; omega) (put_red hr hc0) (fun c h => hc c (List.mem_cons_of_mem _ h))
    obtain ⟨d, s1, s2, s3, s4⟩ := put_self hi hr hc0
    refine ⟨by rw [← put_len (next := out) (j := i) (c := c0)]; exact m1, m2, fun b => ⟨fun c h => ?_, fun c h => ?_, fun c hib h => ?_⟩⟩
    · rcases (m3 b).1 c h with h | ⟨h, h'⟩
      · by_cases hb : b = i
        · subst hb
          rw [s1] at h; cases h
          rcases s3 with rfl | s3
          · exact .inr ⟨Nat.le_refl _, by rw [Nat.sub_self]; rfl⟩
          · exact .inl s3
        · rw [put_other hb] at h; exact .inl h
      · refine .inr ⟨by omega, ?_⟩
        rw [show b - i = (b - (i + 1)) + 1 by omega, List.getElem?_cons_succ]; exact h'
    · by_cases hb : b = i
      · subst hb
        obtain ⟨c', k1, k2⟩ := (m3 b).2.1 d s1
        exact ⟨c', k1, Rat.le_trans k2 (s4 c h)⟩
      · exact (m3 b).2.1 c (by rw [put_other hb]; exact h)
    · by_cases hb : b = i
      · subst hb
        rw [Nat.sub_self, List.getElem?_cons_zero] at h; cases h
        obtain ⟨c', k1, k2⟩ := (m3 b).2.1 d s1
        exact ⟨c', k1, Rat.le_trans k2 s2⟩
      · refine (m3 b).2.2 c (by omega) ?_
        rw [show b - i = (b - (i + 1)) + 1 by omega, List.getElem?_cons_succ] at h; exact h
/-- All that a net says of walks of at most n zA. -/
def Upto (es : List Edge) (src n : Nat) (out : Net) : Prop := out.length = 5 ∧ (∀ b c, out[b]? = some (some c) → ∃ m, 1 ≤ m ∧ m ≤ n ∧ RealC es src m b c) ∧ ∀ b w, 1 ≤ w.length → w.length ≤ n → Wk es src w b → ∃ c, out[b]? = some (some c) ∧ vR c.q ≤ prE w
theorem rounds_spec {es : List Edge} {src : Nat} (hes : ∀ e ∈ es, edgeB e) : ∀ (j n : Nat) (now out : Net), Exact es src n now → Upto es src n out → Upto es src (n + j) (roundsN es j now out)
  | 0, _, _, _, _, h => h
  | j + 1, n, now, out, hnow, hout => by
    have hx := exact_step hes hnow
    have hro : redN out := fun b c h => by
      obtain ⟨m, _, _, h⟩ := hout.2.1 b c h
      exact real_red h
    have hrx : ∀ c, some c ∈ es.foldl (stepE now) zU → redR c.q := fun c h => by
      obtain ⟨b, hb⟩ := List.mem_iff_getElem?.1 h
      exact real_red (hx.2.1 b c hb)
    obtain ⟨m1, m2, m3⟩ := merge_spec (es.foldl (stepE now) zU) 0 out (by rw [hx.1, hout.1]; omega) hro hrx
    have hu : Upto es src (n + 1) (mergeL (es.foldl (stepE now) zU) 0 out) := by
      refine ⟨by rw [m1]; exact hout.1, fun b c h => ?_, fun b w h1 h2 hk => ?_⟩
      · rcases (m3 b).1 c h with h | ⟨_, h⟩
        · obtain ⟨m, k1, k2, k3⟩ := hout.2.1 b c h
          exact ⟨m, k1, by omega, k3⟩
        · exact ⟨n + 1, by omega, Nat.le_refl _, hx.2.1 b c h⟩
      · by_cases hw : w.length = n + 1
        · obtain ⟨c, k1, k2⟩ := hx.2.2 b w hw hk
          obtain ⟨c', g1, g2⟩ := (m3 b).2.2 c (Nat.zero_le _) k1
          exact ⟨c', g1, Rat.le_trans g2 k2⟩
        · obtain ⟨c, k1, k2⟩ := hout.2.2 b w h1 (by omega) hk
          obtain ⟨c', g1, g2⟩ := (m3 b).2.1 c k1
          exact ⟨c', g1, Rat.le_trans g2 k2⟩
    have := rounds_spec hes j (n + 1) _ _ hx hu
    rw [show n + (j + 1) = n + 1 + j by omega]
    exact this
theorem chains_spec {es : List Edge} {src : Nat} (hes : ∀ e ∈ es, edgeB e) (hs : src < 5) (most : Nat) : Upto es src most (zI es src most) := by
  have h0 : Exact es src 0 (zU.set src (some ⟨⟨1, 1⟩, []⟩)) := by
    refine ⟨by simp [zU], fun b c h => ?_, fun b w hw hk => ?_⟩
    · by_cases hb : b = src
      · subst hb
        rw [List.getElem?_set] at h
        simp only [if_true] at h
        split at h
        · cases h
          exact ⟨[], rfl, wk_nil _ _, vq_one, rfl, by decide, by decide, by decide⟩
        · cases h
      · rw [List.getElem?_set_ne (Ne.symm hb)] at h
        have hm := List.mem_of_getElem? h
        simp [zU] at hm
    · have : w = [] := List.length_eq_zero_iff.1 hw
      subst this
      have : src = b := hk.1
      subst this
      exact ⟨⟨⟨1, 1⟩, []⟩, by rw [List.getElem?_set]; simp [zU, hs], by show vq 1 1 ≤ 1; rw [vq_one]; exact Rat.le_refl⟩
  have h1 : Upto es src 0 zU := by
    refine ⟨rfl, fun b c h => ?_, fun b w h1 h2 => by omega⟩
    have hm := List.mem_of_getElem? h
    simp [zU] at hm
  have := rounds_spec hes most 0 _ _ h0 h1
  rw [Nat.zero_add] at this
  exact this
end Go.VS
/-
  What a paper allows: least quotients between any two nodes. (A text of this claim's own; nothing of it is trusted.)
-/
namespace Go.VS
open Go Go.VS.Walks
theorem edge_nodes {p : Paper} (hok : zn p = true) {ax : Int} {e : Edge} (he : e ∈ zA p ax) : edgeB e ∧ e.src ≤ p.sheets ∧ e.dst ≤ p.sheets := by
  obtain ⟨o1, o2, o3, o4, o5, o6⟩ := zC hok
  simp only [zA, List.mem_append, List.mem_flatMap, List.mem_range'_1] at he
  rcases he with (⟨i, hi, he⟩ | he) | he
  · simp [zJ] at he
    unfold edgeB
    rcases he with rfl | rfl <;> simp only [] <;> omega
  · obtain ⟨m, k, h1, h2, h3⟩ := marksE_mem ax he
    refine ⟨edge_of_mark (o5 m h1) o2 k e h3, ?_⟩
    have := o5 m h1
    simp [markOK, zw, isAxis, isSeen] at this
    simp [markE] at h3
    rcases h3 with rfl | rfl <;> simp only [] <;> omega
  · obtain ⟨m, k, h1, h2, h3⟩ := joinsE_mem ax he
    refine ⟨edge_of_join (o6 m h1) o2 k e h3, ?_⟩
    have := o6 m h1
    simp [joinOK, zw, isAxis, isSeen] at this
    simp [joinE] at h3
    rcases h3 with rfl | rfl <;> simp only [] <;> omega
theorem inE_walk {es : List Edge} {l : List T} : ∀ {a b : Nat}, Ch (inE es) a l b → ∃ w, w.map tE = l ∧ Wk es a w b := by
  induction l with
  | nil => intro a b h; exact ⟨[], rfl, h, fun _ h => by cases h⟩
  | cons t l ih =>
    intro a b h
    obtain ⟨⟨e, he, rfl⟩, h2, h3⟩ := h
    obtain ⟨w, rfl, hw⟩ := ih h3
    exact ⟨e :: w, rfl, ⟨⟨e, he, rfl⟩, h2, hw.1⟩, fun e' h' => by
      rcases List.mem_cons.1 h' with rfl | h'
      · exact he
      · exact hw.2 e' h'⟩
theorem clash_none {es : List Edge} : ∀ {j i : Nat}, clashFrom es j i = none → ∀ k, i ≤ k → k < i + j → ∀ c, (zI es k 5)[k]? = some (some c) → ltR c.q one1 = false
  | 0, i, _, k, h1, h2, _, _ => by omega
  | j + 1, i, h, k, h1, h2, c, hc => by
    unfold clashFrom at h
    by_cases hk : k = i
    · subst hk
      rw [hc] at h
      simp only at h
      split at h
      · cases h
      · rename_i hx; simpa using hx
    · refine clash_none (j := j) (i := i + 1) ?_ k (by omega) (by omega) c hc
      split at h
      · split at h
        · cases h
        · exact h
      · exact h
theorem in_pos {p : Paper} (hok : zn p = true) {ax : Int} {t : T} (h : inE (zA p ax) t) : 0 < t.w ∧ t.src < 5 ∧ t.dst < 5 := by
  obtain ⟨e, he, rfl⟩ := h
  have hb := (edge_nodes hok he).1
  refine ⟨edge_pos hb, ?_, ?_⟩
  · show e.src.toNat < 5
    have := hb.1; have := hb.2.1; omega
  · show e.dst.toNat < 5
    have := hb.2.2.1; have := hb.2.2.2.1; omega
theorem one_vR : vR one1 = 1 := vq_one
theorem fair {p : Paper} (hok : zn p = true) {ax : Int} (hc : clashA p ax = none) : Walks.Fair (inE (zA p ax)) 5 := by
  obtain ⟨o1, o2, -⟩ := zC hok
  intro a l hl hlen
  obtain ⟨w, rfl, hw⟩ := inE_walk hl
  cases w with
  | nil => exact Rat.le_refl
  | cons e w =>
    have hin : e ∈ zA p ax := hw.2 e (by simp)
    have hsrc : e.src.toNat = a := hl.2.1
    obtain ⟨hb, hs, _⟩ := edge_nodes hok hin
    have h5 : a < 5 := by have := hb.1; have := hb.2.1; omega
    obtain ⟨c, c1, c2⟩ := (chains_spec (fun e he => (edge_nodes hok he).1) h5 5).2.2 a (e :: w) (by simp) (by simpa using hlen) hw
    have hr : redR c.q := by
      obtain ⟨m, _, _, h⟩ := (chains_spec (fun e he => (edge_nodes hok he).1) h5 5).2.1 a c c1
      exact real_red h
    have hn := clash_none hc a (Nat.zero_le _) (by have := hb.1; omega) c c1
    have : ¬ vR c.q < vR one1 := fun h => by
      rw [← ltR_iff hr.2.1 (by decide)] at h
      rw [hn] at h; cases h
    rw [Rat.not_lt, one_vR] at this
    exact Rat.le_trans this c2
/-- The least quotient between two nodes. -/
def distF (p : Paper) (ax : Int) (s t : Nat) : Ratio := if s = t then one1 else (chnOr (((zI (zA p ax) s 4)[t]?).join)).q
def distC (p : Paper) (ax : Int) (s t : Nat) : Chn := chnOr (((zI (zA p ax) s 4)[t]?).join)
theorem walk_some {p : Paper} (_ : zn p = true) (ax : Int) {s t : Nat} (hs : s < 1 + p.sheets) (ht : t < 1 + p.sheets) (hst : s ≠ t) : ∃ w, 1 ≤ w.length ∧ w.length ≤ 2 ∧ Wk (zA p ax) s w t := by
  have hin : ∀ i : Nat, (i : Int) < p.sheets → ∀ e ∈ zJ i, e ∈ zA p ax := by
    intro i hi e he
    simp only [zA, List.mem_append, List.mem_flatMap, List.mem_range'_1]
    exact .inl (.inl ⟨i, by omega, he⟩)
  have out : ∀ i : Nat, (i : Int) < p.sheets → Wk (zA p ax) (1 + i) [⟨1 + i, 0, ⟨2, 1⟩, ⟨false, -1 - i, false⟩⟩] 0 := by
    intro i hi
    have := wk_one (hin i hi ⟨1 + i, 0, ⟨2, 1⟩, ⟨false, -1 - i, false⟩⟩ (by simp [zJ]))
    rwa [show ((1 + (i : Int)).toNat) = 1 + i by omega] at this
  have back : ∀ i : Nat, (i : Int) < p.sheets → Wk (zA p ax) 0 [⟨0, 1 + i, ⟨2, 1⟩, ⟨false, -1 - i, true⟩⟩] (1 + i) := by
    intro i hi
    have := wk_one (hin i hi ⟨0, 1 + i, ⟨2, 1⟩, ⟨false, -1 - i, true⟩⟩ (by simp [zJ]))
    rwa [show ((1 + (i : Int)).toNat) = 1 + i by omega] at this
  rcases Nat.eq_zero_or_pos s with rfl | hs0
  · have := back (t - 1) (by omega)
    rw [show 1 + (t - 1) = t by omega] at this
    exact ⟨_, by simp, by simp, this⟩
  · have h1 := out (s - 1) (by omega)
    rw [show 1 + (s - 1) = s by omega] at h1
    rcases Nat.eq_zero_or_pos t with rfl | ht0
    · exact ⟨_, by simp, by simp, h1⟩
    · have h2 := back (t - 1) (by omega)
      rw [show 1 + (t - 1) = t by omega] at h2
      exact ⟨_, by simp, by simp, wk_append h1 h2⟩
theorem dist_some {p : Paper} (hok : zn p = true) (ax : Int) {s t : Nat} (hs : s < 1 + p.sheets) (ht : t < 1 + p.sheets) (hst : s ≠ t) : (zI (zA p ax) s 4)[t]? = some (some (distC p ax s t)) := by
  obtain ⟨o1, o2, -⟩ := zC hok
  obtain ⟨w, w1, w2, w3⟩ := walk_some hok ax hs ht hst
  obtain ⟨c, h, _⟩ := (chains_spec (fun e he => (edge_nodes hok he).1) (show s < 5 by omega) 4).2.2 t w w1 (by omega) w3
  unfold distC
  rw [h]; rfl
/-- What is known of a least quotient. -/
theorem dist_real {p : Paper} (hok : zn p = true) (ax : Int) {s t : Nat} (hs : s < 1 + p.sheets) (ht : t < 1 + p.sheets) : redR (distF p ax s t) ∧ ∃ w, Wk (zA p ax) s w t ∧ w.length ≤ 4 ∧ vR (distF p ax s t) = prE w := by
  obtain ⟨o1, o2, -⟩ := zC hok
  by_cases hst : s = t
  · subst hst
    unfold distF
    rw [if_pos rfl]
    exact ⟨⟨by decide, by decide, by decide⟩, [], wk_nil _ _, by simp, one_vR⟩
  · obtain ⟨m, m1, m2, w, w1, w2, w3, w4, w5⟩ := (chains_spec (fun e he => (edge_nodes hok he).1) (show s < 5 by omega) 4).2.1 t _ (dist_some hok ax hs ht hst)
    unfold distF
    rw [if_neg hst]
    exact ⟨w5, w, w2, by omega, w3⟩
theorem dist_least {p : Paper} (hok : zn p = true) {ax : Int} (hc : clashA p ax = none) {s t : Nat} (hs : s < 1 + p.sheets) (ht : t < 1 + p.sheets) {w : List Edge} (hw : Wk (zA p ax) s w t) : vR (distF p ax s t) ≤ prE w := by
  obtain ⟨o1, o2, -⟩ := zC hok
  have hp : ∀ t, inE (zA p ax) t → 0 < t.w := fun t h => (in_pos hok h).1
  have hn : ∀ t, inE (zA p ax) t → t.src < 5 ∧ t.dst < 5 := fun t h => (in_pos hok h).2
  by_cases hst : s = t
  · subst hst
    unfold distF
    rw [if_pos rfl, one_vR]
    exact closed_one hp hn (fair hok hc) hw.1
  · obtain ⟨r, r1, r2, r3, _⟩ := shorten hp hn (fair hok hc) _ _ (Nat.le_refl _) hw.1
    obtain ⟨v, rfl, hv⟩ := inE_walk r1
    have hne : v ≠ [] := by
      rintro rfl
      exact hst hv.1
    have hlen : 1 ≤ v.length ∧ v.length ≤ 4 := by
      constructor
      · cases v with
        | nil => exact absurd rfl hne
        | cons _ _ => simp
      · rcases r2 with r2 | r2
        · simp at r2; omega
        · simp at r2; exact absurd r2 hne
    obtain ⟨c, c1, c2⟩ := (chains_spec (fun e he => (edge_nodes hok he).1) (show s < 5 by omega) 4).2.2 t v hlen.1 hlen.2 hv
    rw [dist_some hok ax hs ht hst] at c1
    cases c1
    unfold distF
    rw [if_neg hst]
    exact Rat.le_trans c2 r3
end Go.VS
/-
  What Factor and Between answer, in the words of least quotients. (A text of this claim's own; nothing of it is trusted.)
-/
namespace Go.VS
open Go Go.VS.Walks
theorem t19x (p : Paper) (a b ax : Int) (hwf : p.wf) : ∃ (r : Ratio) (k : Int), (lim cfg).pure 19 [zt p, I a, I b, I ax] = some (.tup [.agg [I r.n, I r.d], I k]) ∧ (k = 0 ↔ zO p ax [a, b] = 0) ∧ (zO p ax [a, b] = 0 → r = betwF p a b ax) := by
  have h := t19 p a b ax hwf
  by_cases hk : zO p ax [a, b] = 0
  · rw [if_pos hk] at h
    exact ⟨betwF p a b ax, 0, h, by simp [hk], fun _ => rfl⟩
  · rw [if_neg hk] at h
    exact ⟨⟨0, 0⟩, _, h, Iff.rfl, fun h' => absurd h' hk⟩
theorem t20x (p : Paper) (s ax : Int) (hwf : p.wf) : ∃ (lo hi : Ratio) (k : Int), (lim cfg).pure 20 [zt p, I s, I ax] = some (.tup [.agg [I lo.n, I lo.d], .agg [I hi.n, I hi.d], I k]) ∧ (k = 0 ↔ zO p ax [s] = 0) ∧ (zO p ax [s] = 0 → lo = loF p s ax ∧ hi = hiF p s ax) := by
  have h := t20 p s ax hwf
  by_cases hk : zO p ax [s] = 0
  · rw [if_pos hk] at h
    exact ⟨loF p s ax, hiF p s ax, 0, h, by simp [hk], fun _ => ⟨rfl, rfl⟩⟩
  · rw [if_neg hk] at h
    exact ⟨⟨0, 0⟩, ⟨0, 0⟩, _, h, Iff.rfl, fun h' => absurd h' hk⟩
theorem poss_none {p : Paper} (h : possibleF p = true) {ax : Int} (hax : isAxis ax = true) : clashA p ax = none := by
  simp [possibleF] at h
  simp [isAxis] at hax
  rcases hax with rfl | rfl
  · exact h.1
  · exact h.2
theorem sheet_nat {p : Paper} {s : Int} (h : zw p s = true) : ∃ i : Nat, s = i ∧ (1 + i : Nat) < 1 + p.sheets ∧ (1 + s).toNat = 1 + i := by
  simp [zw] at h
  exact ⟨s.toNat, by omega, by omega, by omega⟩
theorem betw_dist (p : Paper) (ax : Int) (i j : Nat) : betwF p i j ax = distF p ax (1 + i) (1 + j) := by
  unfold betwF distF
  rw [show (1 + (i : Int)).toNat = 1 + i by omega, show (1 + (j : Int)).toNat = 1 + j by omega]
  by_cases h : i = j
  · subst h; simp
  · rw [if_neg (by omega), if_neg (by omega)]
theorem hi_dist (p : Paper) (ax : Int) (i : Nat) : hiF p i ax = distF p ax (1 + i) 0 := by
  unfold hiF downF downO distF
  rw [show (1 + (i : Int)).toNat = 1 + i by omega, if_neg (by omega)]
theorem dist_tri {p : Paper} (hok : zn p = true) {ax : Int} (hc : clashA p ax = none) {a b c : Nat} (ha : a < 1 + p.sheets) (hb : b < 1 + p.sheets) (hcc : c < 1 + p.sheets) : vR (distF p ax a c) ≤ vR (distF p ax a b) * vR (distF p ax b c) := by
  obtain ⟨_, w, w1, _, w2⟩ := dist_real hok ax ha hb
  obtain ⟨_, v, v1, _, v2⟩ := dist_real hok ax hb hcc
  rw [w2, v2, ← prE_append]
  exact dist_least hok hc ha hcc (wk_append w1 v1)
end Go.VS
namespace Go.VS
open Go Go.Proofs
set_option maxHeartbeats 0
set_option linter.unusedSimpArgs false

noncomputable def lp18_7 : Code := zz [1, 1, 1, 0, 1, 0, 0] (zo Tryd.f18)
theorem lk18_7 : cfg.keep 18 (zr lp18_7) = [2, 3, 24, 25, 26] := by kernel_rfl
noncomputable def lp18_13 : Code := zz [1, 1, 1, 1, 0, 1, 0, 0] (zo Tryd.f18)
theorem lk18_13 : cfg.keep 18 (zr lp18_13) = [2, 3, 41] := by kernel_rfl
noncomputable def lp18_17 : Code := zz [1, 1, 1, 1, 0, 1, 0, 0, 1, 1, 0, 0, 1, 1, 1, 0, 0] (zo Tryd.f18)
theorem lk18_17 : cfg.keep 18 (zr lp18_17) = [2, 3, 9, 41, 47, 48, 49] := by kernel_rfl

def axF (f : F4) (ax : Int) : Ratio := if ax = 0 then ⟨f.xn, f.xd⟩ else ⟨f.yn, f.yd⟩
def factorAt (fs : List F4) (ax node : Int) : Ratio := if node = 0 then one1 else match fs[(node - 1).toNat]? with | some f => axF f ax | none => one1
def f4OK (f : F4) : Bool := ratioOK ⟨f.xn, f.xd⟩ && ratioOK ⟨f.yn, f.yd⟩
/-- What an edge asks of factors. -/
def edgeFine (fs : List F4) (ax : Int) (e : Edge) : Bool := decide ((factorAt fs ax e.src).n * e.q.d * (factorAt fs ax e.dst).d ≤ e.q.n * (factorAt fs ax e.dst).n * (factorAt fs ax e.src).d)
def factorsFine (p : Paper) (fs : List F4) (ax : Int) : Bool := (zA p ax).all (edgeFine fs ax)
def checkFF (p : Paper) (fs : List F4) : Int := if zn p then (if (fs.length : Int) = p.sheets ∧ fs.all f4OK = true then (if factorsFine p fs 0 && factorsFine p fs 1 then 0 else 31) else 1) else 30
theorem factor_ok {fs : List F4} {ax node : Int} (h : fs.all f4OK = true) : ratioOK (factorAt fs ax node) = true := by
  unfold factorAt
  split
  · rfl
  · split
    · rename_i f hf
      have := List.all_eq_true.1 h f (List.mem_of_getElem? hf)
      simp only [f4OK, Bool.and_eq_true] at this
      unfold axF
      split
      · exact this.1
      · exact this.2
    · rfl
theorem t66'' (n d : Int) : (lim cfg).pure 66 [.agg [I n, I d]] = some (B (ratioOK ⟨n, d⟩)) := t66 n d

theorem t67_0 (fs : List F4) (nf : Bool) (sf : Nat) (node : Int) (hnf : nf = true → fs = []) (hsf : nf = false → sf = 4) (h0 : 0 ≤ node) (h1 : node ≤ fs.length) (hl : fs.length ≤ 1000) : (lim cfg).pure 67 [I node, .ptr (.sl nf (fs.map zP) sf none), .ptr (I 0)] = some (encR (factorAt fs 0 node)) := by
  by_cases hz : node = 0
  · have hb : (node == 0) = true := by simp [hz]
    rw [show factorAt fs 0 node = one1 by simp [factorAt, hz]]
    refine zm (zj 67) cfn67 rfl (n := 15) rfl ?_
    simp only [bW, if_true, Nat.reduceEqDiff, if_false, zl]
    repeat' first
      | (intro hb; first | cases hb | skip)
      | ((first | apply z8 | apply ze)
         · rfl
         · simp (disch := assumption) only [go_sem, Nat.reduceEqDiff, Nat.reduceAdd, bP, zf, Nat.reduceLeDiff, Nat.reduceLT, Nat.reduceMul, List.length_append, decide_eq_true_eq, z9, z6, Int.reduceToNat, Int.reduceLE, Int.reduceLT, Int.reduceBNe, Int.reduceBEq, hb, cfg_glob0]
           rfl
         · simp only [go_sem, Nat.reduceLT, Nat.reduceEqDiff]
           rfl
         · rfl
         first
         | (apply zd
            · simp only [z5, z0, Nat.reduceLT, decide_true, cond_true, ins]
              rfl
            · simp only [z5, z0, Nat.reduceLT, decide_true, cond_true, ins]
              rfl)
         | (apply zh
            · simp only [z5, z0, Nat.reduceLT, decide_true, cond_true, ins]
              rfl))
      | ((first | apply zb | apply zc)
         · rfl
         · simp only [z5, z0, Nat.reduceLT, decide_true, cond_true, ins]
           rfl)
      | (apply za
         · simp only [go_sem, Nat.reduceEqDiff])
      | (apply z7
         · simp only [go_sem, Nat.reduceEqDiff])
      | (apply zg
         · kernel_rfl
         · kernel_rfl)
      | (simp only [bW, if_true, Nat.reduceEqDiff, if_false])
    all_goals try simp only [go_sem, Nat.reduceEqDiff, bP, Nat.reduceAdd, Nat.reduceLeDiff, List.length_map, Tryd.f67]
    all_goals first | done | rfl | (simp_all []; done) | trace_state
  · have hb : (node == 0) = false := by simp [hz]
    obtain ⟨N, hN⟩ := Int.eq_ofNat_of_zero_le (show 0 ≤ node - 1 by omega)
    have hw : IntKind.i64.wrap (node - 1) = (N : Int) := by rw [wrap_i64 (by omega) (by omega), hN]
    have hlt : N < fs.length := by omega
    have hnf' : nf = false := by
      cases h : nf with
      | false => rfl
      | true => rw [hnf h] at hlt; cases hlt
    have hs1 := hsf hnf'
    clear hsf
    subst hs1
    obtain ⟨f, hf⟩ : ∃ f, fs[N]? = some f := ⟨_, List.getElem?_eq_getElem hlt⟩
    have hx : (fs.map zP)[N]? = some (.agg [I f.xn, I f.xd, I f.yn, I f.yd]) := by rw [List.getElem?_map, hf]; rfl
    have e : factorAt fs 0 node = axF f 0 := by
      unfold factorAt
      rw [if_neg hz, show (node - 1).toNat = N by rw [hN]; rfl, hf]
    rw [e]
    refine zm (zj 67) cfn67 rfl (n := 15) rfl ?_
    simp only [bW, if_true, Nat.reduceEqDiff, if_false, zl]
    repeat' first
      | (intro hb; first | cases hb | skip)
      | ((first | apply z8 | apply ze)
         · rfl
         · simp (disch := assumption) only [go_sem, Nat.reduceEqDiff, Nat.reduceAdd, bP, zf, Nat.reduceLeDiff, Nat.reduceLT, Nat.reduceMul, List.length_append, decide_eq_true_eq, z9, z6, Int.reduceToNat, Int.reduceLE, Int.reduceLT, Int.reduceBNe, Int.reduceBEq, hb, hw, hx, hnf', show (0 : Nat) < 2 from by decide, show (1 : Nat) < 2 from by decide]
           rfl
         · simp only [go_sem, Nat.reduceLT, Nat.reduceEqDiff]
           rfl
         · rfl
         first
         | (apply zd
            · simp only [z5, z0, Nat.reduceLT, decide_true, cond_true, ins]
              rfl
            · simp only [z5, z0, Nat.reduceLT, decide_true, cond_true, ins]
              rfl)
         | (apply zh
            · simp only [z5, z0, Nat.reduceLT, decide_true, cond_true, ins]
              rfl))
      | ((first | apply zb | apply zc)
         · rfl
         · simp only [z5, z0, Nat.reduceLT, decide_true, cond_true, ins]
           rfl)
      | (apply za
         · simp only [go_sem, Nat.reduceEqDiff])
      | (apply z7
         · simp only [go_sem, Nat.reduceEqDiff])
      | (apply zg
         · kernel_rfl
         · kernel_rfl)
      | (simp only [bW, if_true, Nat.reduceEqDiff, if_false])
    all_goals try simp only [go_sem, Nat.reduceEqDiff, bP, Nat.reduceAdd, Nat.reduceLeDiff, List.length_map, Tryd.f67, axF]
    all_goals first | done | rfl | (simp_all []; done) | trace_state

theorem t67_1 (fs : List F4) (nf : Bool) (sf : Nat) (node : Int) (hnf : nf = true → fs = []) (hsf : nf = false → sf = 4) (h0 : 0 ≤ node) (h1 : node ≤ fs.length) (hl : fs.length ≤ 1000) : (lim cfg).pure 67 [I node, .ptr (.sl nf (fs.map zP) sf none), .ptr (I 1)] = some (encR (factorAt fs 1 node)) := by
  by_cases hz : node = 0
  · have hb : (node == 0) = true := by simp [hz]
    rw [show factorAt fs 1 node = one1 by simp [factorAt, hz]]
    refine zm (zj 67) cfn67 rfl (n := 15) rfl ?_
    simp only [bW, if_true, Nat.reduceEqDiff, if_false, zl]
    repeat' first
      | (intro hb; first | cases hb | skip)
      | ((first | apply z8 | apply ze)
         · rfl
         · simp (disch := assumption) only [go_sem, Nat.reduceEqDiff, Nat.reduceAdd, bP, zf, Nat.reduceLeDiff, Nat.reduceLT, Nat.reduceMul, List.length_append, decide_eq_true_eq, z9, z6, Int.reduceToNat, Int.reduceLE, Int.reduceLT, Int.reduceBNe, Int.reduceBEq, hb, cfg_glob0]
           rfl
         · simp only [go_sem, Nat.reduceLT, Nat.reduceEqDiff]
           rfl
         · rfl
         first
         | (apply zd
            · simp only [z5, z0, Nat.reduceLT, decide_true, cond_true, ins]
              rfl
            · simp only [z5, z0, Nat.reduceLT, decide_true, cond_true, ins]
              rfl)
         | (apply zh
            · simp only [z5, z0, Nat.reduceLT, decide_true, cond_true, ins]
              rfl))
      | ((first | apply zb | apply zc)
         · rfl
         · simp only [z5, z0, Nat.reduceLT, decide_true, cond_true, ins]
           rfl)
      | (apply za
         · simp only [go_sem, Nat.reduceEqDiff])
      | (apply z7
         · simp only [go_sem, Nat.reduceEqDiff])
      | (apply zg
         · kernel_rfl
         · kernel_rfl)
      | (simp only [bW, if_true, Nat.reduceEqDiff, if_false])
    all_goals try simp only [go_sem, Nat.reduceEqDiff, bP, Nat.reduceAdd, Nat.reduceLeDiff, List.length_map, Tryd.f67]
    all_goals first | done | rfl | (simp_all []; done) | trace_state
  · have hb : (node == 0) = false := by simp [hz]
    obtain ⟨N, hN⟩ := Int.eq_ofNat_of_zero_le (show 0 ≤ node - 1 by omega)
    have hw : IntKind.i64.wrap (node - 1) = (N : Int) := by rw [wrap_i64 (by omega) (by omega), hN]
    have hlt : N < fs.length := by omega
    have hnf' : nf = false := by
      cases h : nf with
      | false => rfl
      | true => rw [hnf h] at hlt; cases hlt
    have hs1 := hsf hnf'
    clear hsf
    subst hs1
    obtain ⟨f, hf⟩ : ∃ f, fs[N]? = some f := ⟨_, List.getElem?_eq_getElem hlt⟩
    have hx : (fs.map zP)[N]? = some (.agg [I f.xn, I f.xd, I f.yn, I f.yd]) := by rw [List.getElem?_map, hf]; rfl
    have e : factorAt fs 1 node = axF f 1 := by
      unfold factorAt
      rw [if_neg hz, show (node - 1).toNat = N by rw [hN]; rfl, hf]
    rw [e]
    refine zm (zj 67) cfn67 rfl (n := 15) rfl ?_
    simp only [bW, if_true, Nat.reduceEqDiff, if_false, zl]
    repeat' first
      | (intro hb; first | cases hb | skip)
      | ((first | apply z8 | apply ze)
         · rfl
         · simp (disch := assumption) only [go_sem, Nat.reduceEqDiff, Nat.reduceAdd, bP, zf, Nat.reduceLeDiff, Nat.reduceLT, Nat.reduceMul, List.length_append, decide_eq_true_eq, z9, z6, Int.reduceToNat, Int.reduceLE, Int.reduceLT, Int.reduceBNe, Int.reduceBEq, hb, hw, hx, hnf', show (0 : Nat) < 2 from by decide, show (1 : Nat) < 2 from by decide]
           rfl
         · simp only [go_sem, Nat.reduceLT, Nat.reduceEqDiff]
           rfl
         · rfl
         first
         | (apply zd
            · simp only [z5, z0, Nat.reduceLT, decide_true, cond_true, ins]
              rfl
            · simp only [z5, z0, Nat.reduceLT, decide_true, cond_true, ins]
              rfl)
         | (apply zh
            · simp only [z5, z0, Nat.reduceLT, decide_true, cond_true, ins]
              rfl))
      | ((first | apply zb | apply zc)
         · rfl
         · simp only [z5, z0, Nat.reduceLT, decide_true, cond_true, ins]
           rfl)
      | (apply za
         · simp only [go_sem, Nat.reduceEqDiff])
      | (apply z7
         · simp only [go_sem, Nat.reduceEqDiff])
      | (apply zg
         · kernel_rfl
         · kernel_rfl)
      | (simp only [bW, if_true, Nat.reduceEqDiff, if_false])
    all_goals try simp only [go_sem, Nat.reduceEqDiff, bP, Nat.reduceAdd, Nat.reduceLeDiff, List.length_map, Tryd.f67, axF]
    all_goals first | done | rfl | (simp_all []; done) | trace_state

theorem L18_7 {F : Exit → St → Option D} (p : Paper) (fs : List F4) (nf : Bool) (sf : Nat) (k : List Kt) (x : D) (hnf : nf = true → fs = []) (hsf : nf = false → sf = 4) (hl : fs.length ≤ 9223372036854775807) (hk : ∀ st, get st.tmps 4 = I 1 → zB cfg (lim cfg) 18 F k .ret st = some (I 1)) : ∀ (rest : List F4) (i : Nat), fs.drop i = rest → i ≤ fs.length →
    (rest.all f4OK = true → zB cfg (lim cfg) 18 F k (.exit 0) ⟨83, [(27, B false), (2, .lref 0 0 3 0), (3, .lref 1 0 1 0), (24, .sl nf (fs.map zP) sf none), (25, I fs.length), (26, I (fs.length : Nat))], [(0, ⟨[zt p], 3, false⟩), (1, ⟨[.sl nf (fs.map zP) sf none], 1, false⟩)], 2, 0⟩ = some x) →
    (rest.all f4OK = false → x = I 1) →
    EvL cfg (lim cfg) 18 F lp18_7 k ⟨83, [(2, .lref 0 0 3 0), (3, .lref 1 0 1 0), (24, .sl nf (fs.map zP) sf none), (25, I fs.length), (26, I (i : Nat))], [(0, ⟨[zt p], 3, false⟩), (1, ⟨[.sl nf (fs.map zP) sf none], 1, false⟩)], 2, 0⟩ = some x := by
  intro rest
  induction rest with
  | nil =>
    intro i hd hi h h'
    have hi' : i = fs.length := by
      have := List.drop_eq_nil_iff.1 hd
      omega
    subst hi'
    refine zk ?_
    try dsimp only [lp18_7, zz, zo, Tryd.f18]
    simp only [bW, if_true, Nat.reduceEqDiff, if_false]
    repeat' first
      | (intro hb; first | cases hb | skip)
      | ((first | apply z8 | apply ze)
         · rfl
         · simp (disch := assumption) only [go_sem, Nat.reduceEqDiff, Nat.reduceAdd, bP, zf, Nat.reduceLeDiff, Nat.reduceLT, Nat.reduceMul, List.length_append, decide_eq_true_eq, z9, z6, Int.reduceToNat, Int.reduceLE, Int.reduceLT, Int.reduceBNe, Int.reduceBEq, Int.lt_irrefl]
           rfl
         · simp only [go_sem, Nat.reduceLT, Nat.reduceEqDiff]
           rfl
         · rfl
         first
         | (apply zd
            · simp only [z5, z0, Nat.reduceLT, decide_true, cond_true, ins]
              rfl
            · simp only [z5, z0, Nat.reduceLT, decide_true, cond_true, ins]
              rfl)
         | (apply zh
            · simp only [z5, z0, Nat.reduceLT, decide_true, cond_true, ins]
              rfl))
      | ((first | apply zb | apply zc)
         · rfl
         · simp only [z5, z0, Nat.reduceLT, decide_true, cond_true, ins]
           rfl)
      | (apply za
         · simp only [go_sem, Nat.reduceEqDiff])
      | (apply z7
         · simp only [go_sem, Nat.reduceEqDiff])
      | (apply zg
         · kernel_rfl
         · kernel_rfl)
      | (simp only [bW, if_true, Nat.reduceEqDiff, if_false])
    exact h rfl
  | cons f rest ih =>
    intro i hd hi h h'
    have hlt : i < fs.length := by
      rcases Nat.lt_or_ge i fs.length with h | h
      · exact h
      · rw [List.drop_eq_nil_of_le h] at hd; cases hd
    have hf : fs[i]? = some f := by rw [← List.head?_drop, hd]; rfl
    have hx : (fs.map zP)[i]? = some (.agg [I f.xn, I f.xd, I f.yn, I f.yd]) := by rw [List.getElem?_map, hf]; rfl
    have hnf' : nf = false := by
      cases h : nf with
      | false => rfl
      | true => rw [hnf h] at hlt; cases hlt
    have hs1 := hsf hnf'
    clear hsf
    subst hs1
    have hlt' : (i : Int) < (fs.length : Int) := by omega
    have hw3 : IntKind.i64.wrap ((i : Int) + 1) = ((i + 1 : Nat) : Int) := by rw [wrap_i64 (by omega) (by omega)]; omega
    refine zk ?_
    try dsimp only [lp18_7, zz, zo, Tryd.f18]
    simp only [bW, if_true, Nat.reduceEqDiff, if_false]
    repeat' first
      | (intro hb; first | cases hb | skip)
      | ((first | apply z8 | apply ze)
         · rfl
         · simp (disch := assumption) only [go_sem, Nat.reduceEqDiff, Nat.reduceAdd, bP, zf, Nat.reduceLeDiff, Nat.reduceLT, Nat.reduceMul, List.length_append, decide_eq_true_eq, z9, z6, Int.reduceToNat, Int.reduceLE, Int.reduceLT, Int.reduceBNe, Int.reduceBEq, hx, hnf', hlt', hw3, t66'', show (0 : Nat) < 2 from by decide, show (1 : Nat) < 2 from by decide]
           rfl
         · simp only [go_sem, Nat.reduceLT, Nat.reduceEqDiff]
           rfl
         · rfl
         first
         | (apply zd
            · simp only [z5, z0, Nat.reduceLT, decide_true, cond_true, ins]
              rfl
            · simp only [z5, z0, Nat.reduceLT, decide_true, cond_true, ins]
              rfl)
         | (apply zh
            · simp only [z5, z0, Nat.reduceLT, decide_true, cond_true, ins]
              rfl))
      | ((first | apply zb | apply zc)
         · rfl
         · simp only [z5, z0, Nat.reduceLT, decide_true, cond_true, ins]
           rfl)
      | (apply za
         · simp only [go_sem, Nat.reduceEqDiff])
      | (apply z7
         · simp only [go_sem, Nat.reduceEqDiff])
      | (apply zg
         · kernel_rfl
         · kernel_rfl)
      | (simp only [bW, if_true, Nat.reduceEqDiff, if_false])
    all_goals first
    | (have hx0 := h' (by simp_all [f4OK])
       rw [hx0]; exact hk _ rfl)
    | exact zu (st1 := ⟨83, [(2, .lref 0 0 3 0), (3, .lref 1 0 1 0), (24, .sl nf (fs.map zP) 4 none), (25, I fs.length), (26, I (i + 1 : Nat))], [(0, ⟨[zt p], 3, false⟩), (1, ⟨[.sl nf (fs.map zP) 4 none], 1, false⟩)], 2, 0⟩) lk18_7 (by kernel_rfl) (ih (i + 1) (by rw [← List.drop_drop, hd]; rfl) hlt (fun ha => h (by simp_all [f4OK])) (fun ha => h' (by simp_all [f4OK])))
theorem edges_sheets {p : Paper} (hok : zn p = true) (ax : Int) : ∀ e ∈ zA p ax, 0 ≤ e.src ∧ e.src ≤ p.sheets ∧ 0 ≤ e.dst ∧ e.dst ≤ p.sheets := by
  obtain ⟨o1, o2, o3, o4, o5, o6⟩ := zC hok
  intro e he
  simp only [zA, List.mem_append, List.mem_flatMap, List.mem_range'_1] at he
  rcases he with (⟨i, hi, he⟩ | he) | he
  · simp [zJ] at he
    rcases he with rfl | rfl <;> simp only [] <;> omega
  · obtain ⟨m, k, h1, _, h2⟩ := marksE_mem ax he
    have := o5 m h1
    simp [markOK, zw] at this
    simp [markE] at h2
    rcases h2 with rfl | rfl <;> simp only [] <;> omega
  · obtain ⟨m, k, h1, _, h2⟩ := joinsE_mem ax he
    have := o6 m h1
    simp [joinOK, zw] at this
    simp [joinE] at h2
    rcases h2 with rfl | rfl <;> simp only [] <;> omega
theorem cmp_gt (a b : Int) : decide (cmpI a b > 0) = decide (b < a) := by
  unfold cmpI
  split
  · rename_i h; simp [h]
  · split <;> rename_i h <;> simp <;> omega

theorem L18_17_0 {F : Exit → St → Option D} (p : Paper) (fs : List F4) (nf : Bool) (sf : Nat) (es : List Edge) (k : List Kt) (x : D) (hnf : nf = true → fs = []) (hsf : nf = false → sf = 4) (hfs : fs.all f4OK = true) (hl : fs.length ≤ 4) (hes : ∀ e ∈ es, edgeB e ∧ e.src ≤ fs.length ∧ e.dst ≤ fs.length) (hlen : es.length ≤ 1000) (hk : ∀ st, get st.tmps 4 = I 31 → zB cfg (lim cfg) 18 F k .ret st = some (I 31)) : ∀ (rest : List Edge) (i : Nat), es.drop i = rest → i ≤ es.length →
    (rest.all (edgeFine fs 0) = true → zB cfg (lim cfg) 18 F k (.exit 4) ⟨83, [(50, B false), (2, .lref 0 0 3 0), (3, .lref 1 0 1 0), (9, .fn (.func 67) [] [.lref 1 0 1 0, .lref 2 0 1 0]), (41, I 0), (47, .sl false (es.map zQ) 7 none), (48, I es.length), (49, I (es.length : Nat))], [(0, ⟨[zt p], 3, false⟩), (1, ⟨[.sl nf (fs.map zP) sf none], 1, false⟩), (2, ⟨[I 0], 1, false⟩)], 3, 0⟩ = some x) →
    (rest.all (edgeFine fs 0) = false → x = I 31) →
    EvL cfg (lim cfg) 18 F lp18_17 k ⟨83, [(2, .lref 0 0 3 0), (3, .lref 1 0 1 0), (9, .fn (.func 67) [] [.lref 1 0 1 0, .lref 2 0 1 0]), (41, I 0), (47, .sl false (es.map zQ) 7 none), (48, I es.length), (49, I (i : Nat))], [(0, ⟨[zt p], 3, false⟩), (1, ⟨[.sl nf (fs.map zP) sf none], 1, false⟩), (2, ⟨[I 0], 1, false⟩)], 3, 0⟩ = some x := by
  intro rest
  induction rest with
  | nil =>
    intro i hd hi h h'
    have hi' : i = es.length := by
      have := List.drop_eq_nil_iff.1 hd
      omega
    subst hi'
    refine zk ?_
    try dsimp only [lp18_17, zz, zo, Tryd.f18]
    simp only [bW, if_true, Nat.reduceEqDiff, if_false]
    repeat' first
      | (intro hb; first | cases hb | skip)
      | ((first | apply z8 | apply ze)
         · rfl
         · simp (disch := assumption) only [go_sem, Nat.reduceEqDiff, Nat.reduceAdd, bP, zf, Nat.reduceLeDiff, Nat.reduceLT, Nat.reduceMul, List.length_append, decide_eq_true_eq, z9, z6, Int.reduceToNat, Int.reduceLE, Int.reduceLT, Int.reduceBNe, Int.reduceBEq, Int.lt_irrefl]
           rfl
         · simp only [go_sem, Nat.reduceLT, Nat.reduceEqDiff]
           rfl
         · rfl
         first
         | (apply zd
            · simp only [z5, z0, Nat.reduceLT, decide_true, cond_true, ins]
              rfl
            · simp only [z5, z0, Nat.reduceLT, decide_true, cond_true, ins]
              rfl)
         | (apply zh
            · simp only [z5, z0, Nat.reduceLT, decide_true, cond_true, ins]
              rfl))
      | ((first | apply zb | apply zc)
         · rfl
         · simp only [z5, z0, Nat.reduceLT, decide_true, cond_true, ins]
           rfl)
      | (apply za
         · simp only [go_sem, Nat.reduceEqDiff])
      | (apply z7
         · simp only [go_sem, Nat.reduceEqDiff])
      | (apply zg
         · kernel_rfl
         · kernel_rfl)
      | (simp only [bW, if_true, Nat.reduceEqDiff, if_false])
    exact h rfl
  | cons e rest ih =>
    intro i hd hi h h'
    have hlt : i < es.length := by
      rcases Nat.lt_or_ge i es.length with h | h
      · exact h
      · rw [List.drop_eq_nil_of_le h] at hd; cases hd
    have hm : es[i]? = some e := by rw [← List.head?_drop, hd]; rfl
    obtain ⟨⟨e1, e2, e3, e4, e5, e6, e7, e8⟩, e9, e10⟩ := hes e (List.mem_of_getElem? hm)
    have hx : (es.map zQ)[i]? = some (.agg [I e.src, I e.dst, I e.q.n, I e.q.d, B e.why.join, I e.why.at_, B e.why.back]) := by rw [List.getElem?_map, hm]; rfl
    have hlt' : (i : Int) < (es.length : Int) := by omega
    have hw3 : IntKind.i64.wrap ((i : Int) + 1) = ((i + 1 : Nat) : Int) := by rw [wrap_i64 (by omega) (by omega)]; omega
    have h67a := t67_0 fs nf sf e.src hnf hsf e1 e9 (by omega)
    have h67b := t67_0 fs nf sf e.dst hnf hsf e3 e10 (by omega)
    have hfa := factor_ok (ax := 0) (node := e.src) hfs
    have hfb := factor_ok (ax := 0) (node := e.dst) hfs
    have hgd : edgeFine fs 0 e = decide ((factorAt fs 0 e.src).n * e.q.d * (factorAt fs 0 e.dst).d ≤ e.q.n * (factorAt fs 0 e.dst).n * (factorAt fs 0 e.src).d) := rfl
    generalize factorAt fs 0 e.src = fa at *
    generalize factorAt fs 0 e.dst = fb at *
    simp only [ratioOK, Bool.and_eq_true, decide_eq_true_eq] at hfa hfb
    obtain ⟨⟨⟨a1, a2⟩, a3⟩, a4⟩ := hfa
    obtain ⟨⟨⟨b1, b2⟩, b3⟩, b4⟩ := hfb
    have m1 := Int.mul_le_mul a2 e8 (by omega) (by omega)
    have m1' := Int.mul_le_mul a1 e7 (by omega) (by omega)
    have m2 := Int.mul_le_mul e6 b2 (by omega) (by omega)
    have m2' := Int.mul_le_mul e5 b1 (by omega) (by omega)
    have hwa : IntKind.i64.wrap (fa.n * e.q.d) = fa.n * e.q.d := wrap_i64 (by omega) (by omega)
    have hwb : IntKind.i64.wrap (e.q.n * fb.n) = e.q.n * fb.n := wrap_i64 (by omega) (by omega)
    have h69a := t69 (fa.n * e.q.d) fb.d (by omega) (by omega) (by omega) (by omega)
    have h69b := t69 (e.q.n * fb.n) fa.d (by omega) (by omega) (by omega) (by omega)
    have h70 := t70 (hi64 (fa.n * e.q.d) fb.d) (lo64 (fa.n * e.q.d) fb.d) (hi64 (e.q.n * fb.n) fa.d) (lo64 (e.q.n * fb.n) fa.d)
    rw [cmp_of (Int.mul_nonneg (by omega) (by omega)) (Int.mul_nonneg (by omega) (by omega))] at h70
    have hg : decide (cmpI (fa.n * e.q.d * fb.d) (e.q.n * fb.n * fa.d) > 0) = !(edgeFine fs 0 e) := by
      rw [cmp_gt, hgd]
      by_cases hc : fa.n * e.q.d * fb.d ≤ e.q.n * fb.n * fa.d
      · have : ¬ (e.q.n * fb.n * fa.d < fa.n * e.q.d * fb.d) := by omega
        simp [hc, this]
      · have : e.q.n * fb.n * fa.d < fa.n * e.q.d * fb.d := by omega
        simp [hc, this]
    refine zk ?_
    try dsimp only [lp18_17, zz, zo, Tryd.f18]
    simp only [bW, if_true, Nat.reduceEqDiff, if_false]
    repeat' first
      | (intro hb; first | cases hb | skip)
      | ((first | apply z8 | apply ze)
         · rfl
         · simp (disch := assumption) only [go_sem, Nat.reduceEqDiff, Nat.reduceAdd, bP, zf, Nat.reduceLeDiff, Nat.reduceLT, Nat.reduceMul, List.length_append, decide_eq_true_eq, z9, z6, Int.reduceToNat, Int.reduceLE, Int.reduceLT, Int.reduceBNe, Int.reduceBEq, hx, hlt', hw3, h67a, h67b, h69a, h69b, h70, hg, hwa, hwb, encR]
           rfl
         · simp only [go_sem, Nat.reduceLT, Nat.reduceEqDiff]
           rfl
         · rfl
         first
         | (apply zd
            · simp only [z5, z0, Nat.reduceLT, decide_true, cond_true, ins]
              rfl
            · simp only [z5, z0, Nat.reduceLT, decide_true, cond_true, ins]
              rfl)
         | (apply zh
            · simp only [z5, z0, Nat.reduceLT, decide_true, cond_true, ins]
              rfl))
      | ((first | apply zb | apply zc)
         · rfl
         · simp only [z5, z0, Nat.reduceLT, decide_true, cond_true, ins]
           rfl)
      | (apply za
         · simp only [go_sem, Nat.reduceEqDiff])
      | (apply z7
         · simp only [go_sem, Nat.reduceEqDiff])
      | (apply zg
         · kernel_rfl
         · kernel_rfl)
      | (simp only [bW, if_true, Nat.reduceEqDiff, if_false])
    · clear hgd hg
      simp only [Bool.not_eq_true'] at hb
      rw [h' (by simp [hb])]; exact hk _ rfl
    · clear hgd hg
      simp only [Bool.not_eq_false'] at hb
      simp only [List.all_cons, hb, Bool.true_and] at h h'
      exact zu (st1 := ⟨83, [(2, .lref 0 0 3 0), (3, .lref 1 0 1 0), (9, .fn (.func 67) [] [.lref 1 0 1 0, .lref 2 0 1 0]), (41, I 0), (47, .sl false (es.map zQ) 7 none), (48, I es.length), (49, I (i + 1 : Nat))], [(0, ⟨[zt p], 3, false⟩), (1, ⟨[.sl nf (fs.map zP) sf none], 1, false⟩), (2, ⟨[I 0], 1, false⟩)], 3, 0⟩) lk18_17 (by kernel_rfl) (ih (i + 1) (by rw [← List.drop_drop, hd]; rfl) hlt h h')

theorem L18_17_1 {F : Exit → St → Option D} (p : Paper) (fs : List F4) (nf : Bool) (sf : Nat) (es : List Edge) (k : List Kt) (x : D) (hnf : nf = true → fs = []) (hsf : nf = false → sf = 4) (hfs : fs.all f4OK = true) (hl : fs.length ≤ 4) (hes : ∀ e ∈ es, edgeB e ∧ e.src ≤ fs.length ∧ e.dst ≤ fs.length) (hlen : es.length ≤ 1000) (hk : ∀ st, get st.tmps 4 = I 31 → zB cfg (lim cfg) 18 F k .ret st = some (I 31)) : ∀ (rest : List Edge) (i : Nat), es.drop i = rest → i ≤ es.length →
    (rest.all (edgeFine fs 1) = true → zB cfg (lim cfg) 18 F k (.exit 4) ⟨83, [(50, B false), (2, .lref 0 0 3 0), (3, .lref 1 0 1 0), (9, .fn (.func 67) [] [.lref 1 0 1 0, .lref 2 0 1 0]), (41, I 1), (47, .sl false (es.map zQ) 7 none), (48, I es.length), (49, I (es.length : Nat))], [(0, ⟨[zt p], 3, false⟩), (1, ⟨[.sl nf (fs.map zP) sf none], 1, false⟩), (2, ⟨[I 1], 1, false⟩)], 3, 0⟩ = some x) →
    (rest.all (edgeFine fs 1) = false → x = I 31) →
    EvL cfg (lim cfg) 18 F lp18_17 k ⟨83, [(2, .lref 0 0 3 0), (3, .lref 1 0 1 0), (9, .fn (.func 67) [] [.lref 1 0 1 0, .lref 2 0 1 0]), (41, I 1), (47, .sl false (es.map zQ) 7 none), (48, I es.length), (49, I (i : Nat))], [(0, ⟨[zt p], 3, false⟩), (1, ⟨[.sl nf (fs.map zP) sf none], 1, false⟩), (2, ⟨[I 1], 1, false⟩)], 3, 0⟩ = some x := by
  intro rest
  induction rest with
  | nil =>
    intro i hd hi h h'
    have hi' : i = es.length := by
      have := List.drop_eq_nil_iff.1 hd
      omega
    subst hi'
    refine zk ?_
    try dsimp only [lp18_17, zz, zo, Tryd.f18]
    simp only [bW, if_true, Nat.reduceEqDiff, if_false]
    repeat' first
      | (intro hb; first | cases hb | skip)
      | ((first | apply z8 | apply ze)
         · rfl
         · simp (disch := assumption) only [go_sem, Nat.reduceEqDiff, Nat.reduceAdd, bP, zf, Nat.reduceLeDiff, Nat.reduceLT, Nat.reduceMul, List.length_append, decide_eq_true_eq, z9, z6, Int.reduceToNat, Int.reduceLE, Int.reduceLT, Int.reduceBNe, Int.reduceBEq, Int.lt_irrefl]
           rfl
         · simp only [go_sem, Nat.reduceLT, Nat.reduceEqDiff]
           rfl
         · rfl
         first
         | (apply zd
            · simp only [z5, z0, Nat.reduceLT, decide_true, cond_true, ins]
              rfl
            · simp only [z5, z0, Nat.reduceLT, decide_true, cond_true, ins]
              rfl)
         | (apply zh
            · simp only [z5, z0, Nat.reduceLT, decide_true, cond_true, ins]
              rfl))
      | ((first | apply zb | apply zc)
         · rfl
         · simp only [z5, z0, Nat.reduceLT, decide_true, cond_true, ins]
           rfl)
      | (apply za
         · simp only [go_sem, Nat.reduceEqDiff])
      | (apply z7
         · simp only [go_sem, Nat.reduceEqDiff])
      | (apply zg
         · kernel_rfl
         · kernel_rfl)
      | (simp only [bW, if_true, Nat.reduceEqDiff, if_false])
    exact h rfl
  | cons e rest ih =>
    intro i hd hi h h'
    have hlt : i < es.length := by
      rcases Nat.lt_or_ge i es.length with h | h
      · exact h
      · rw [List.drop_eq_nil_of_le h] at hd; cases hd
    have hm : es[i]? = some e := by rw [← List.head?_drop, hd]; rfl
    obtain ⟨⟨e1, e2, e3, e4, e5, e6, e7, e8⟩, e9, e10⟩ := hes e (List.mem_of_getElem? hm)
    have hx : (es.map zQ)[i]? = some (.agg [I e.src, I e.dst, I e.q.n, I e.q.d, B e.why.join, I e.why.at_, B e.why.back]) := by rw [List.getElem?_map, hm]; rfl
    have hlt' : (i : Int) < (es.length : Int) := by omega
    have hw3 : IntKind.i64.wrap ((i : Int) + 1) = ((i + 1 : Nat) : Int) := by rw [wrap_i64 (by omega) (by omega)]; omega
    have h67a := t67_1 fs nf sf e.src hnf hsf e1 e9 (by omega)
    have h67b := t67_1 fs nf sf e.dst hnf hsf e3 e10 (by omega)
    have hfa := factor_ok (ax := 1) (node := e.src) hfs
    have hfb := factor_ok (ax := 1) (node := e.dst) hfs
    have hgd : edgeFine fs 1 e = decide ((factorAt fs 1 e.src).n * e.q.d * (factorAt fs 1 e.dst).d ≤ e.q.n * (factorAt fs 1 e.dst).n * (factorAt fs 1 e.src).d) := rfl
    generalize factorAt fs 1 e.src = fa at *
    generalize factorAt fs 1 e.dst = fb at *
    simp only [ratioOK, Bool.and_eq_true, decide_eq_true_eq] at hfa hfb
    obtain ⟨⟨⟨a1, a2⟩, a3⟩, a4⟩ := hfa
    obtain ⟨⟨⟨b1, b2⟩, b3⟩, b4⟩ := hfb
    have m1 := Int.mul_le_mul a2 e8 (by omega) (by omega)
    have m1' := Int.mul_le_mul a1 e7 (by omega) (by omega)
    have m2 := Int.mul_le_mul e6 b2 (by omega) (by omega)
    have m2' := Int.mul_le_mul e5 b1 (by omega) (by omega)
    have hwa : IntKind.i64.wrap (fa.n * e.q.d) = fa.n * e.q.d := wrap_i64 (by omega) (by omega)
    have hwb : IntKind.i64.wrap (e.q.n * fb.n) = e.q.n * fb.n := wrap_i64 (by omega) (by omega)
    have h69a := t69 (fa.n * e.q.d) fb.d (by omega) (by omega) (by omega) (by omega)
    have h69b := t69 (e.q.n * fb.n) fa.d (by omega) (by omega) (by omega) (by omega)
    have h70 := t70 (hi64 (fa.n * e.q.d) fb.d) (lo64 (fa.n * e.q.d) fb.d) (hi64 (e.q.n * fb.n) fa.d) (lo64 (e.q.n * fb.n) fa.d)
    rw [cmp_of (Int.mul_nonneg (by omega) (by omega)) (Int.mul_nonneg (by omega) (by omega))] at h70
    have hg : decide (cmpI (fa.n * e.q.d * fb.d) (e.q.n * fb.n * fa.d) > 0) = !(edgeFine fs 1 e) := by
      rw [cmp_gt, hgd]
      by_cases hc : fa.n * e.q.d * fb.d ≤ e.q.n * fb.n * fa.d
      · have : ¬ (e.q.n * fb.n * fa.d < fa.n * e.q.d * fb.d) := by omega
        simp [hc, this]
      · have : e.q.n * fb.n * fa.d < fa.n * e.q.d * fb.d := by omega
        simp [hc, this]
    refine zk ?_
    try dsimp only [lp18_17, zz, zo, Tryd.f18]
    simp only [bW, if_true, Nat.reduceEqDiff, if_false]
    repeat' first
      | (intro hb; first | cases hb | skip)
      | ((first | apply z8 | apply ze)
         · rfl
         · simp (disch := assumption) only [go_sem, Nat.reduceEqDiff, Nat.reduceAdd, bP, zf, Nat.reduceLeDiff, Nat.reduceLT, Nat.reduceMul, List.length_append, decide_eq_true_eq, z9, z6, Int.reduceToNat, Int.reduceLE, Int.reduceLT, Int.reduceBNe, Int.reduceBEq, hx, hlt', hw3, h67a, h67b, h69a, h69b, h70, hg, hwa, hwb, encR]
           rfl
         · simp only [go_sem, Nat.reduceLT, Nat.reduceEqDiff]
           rfl
         · rfl
         first
         | (apply zd
            · simp only [z5, z0, Nat.reduceLT, decide_true, cond_true, ins]
              rfl
            · simp only [z5, z0, Nat.reduceLT, decide_true, cond_true, ins]
              rfl)
         | (apply zh
            · simp only [z5, z0, Nat.reduceLT, decide_true, cond_true, ins]
              rfl))
      | ((first | apply zb | apply zc)
         · rfl
         · simp only [z5, z0, Nat.reduceLT, decide_true, cond_true, ins]
           rfl)
      | (apply za
         · simp only [go_sem, Nat.reduceEqDiff])
      | (apply z7
         · simp only [go_sem, Nat.reduceEqDiff])
      | (apply zg
         · kernel_rfl
         · kernel_rfl)
      | (simp only [bW, if_true, Nat.reduceEqDiff, if_false])
    · clear hgd hg
      simp only [Bool.not_eq_true'] at hb
      rw [h' (by simp [hb])]; exact hk _ rfl
    · clear hgd hg
      simp only [Bool.not_eq_false'] at hb
      simp only [List.all_cons, hb, Bool.true_and] at h h'
      exact zu (st1 := ⟨83, [(2, .lref 0 0 3 0), (3, .lref 1 0 1 0), (9, .fn (.func 67) [] [.lref 1 0 1 0, .lref 2 0 1 0]), (41, I 1), (47, .sl false (es.map zQ) 7 none), (48, I es.length), (49, I (i + 1 : Nat))], [(0, ⟨[zt p], 3, false⟩), (1, ⟨[.sl nf (fs.map zP) sf none], 1, false⟩), (2, ⟨[I 1], 1, false⟩)], 3, 0⟩) lk18_17 (by kernel_rfl) (ih (i + 1) (by rw [← List.drop_drop, hd]; rfl) hlt h h')

theorem t18 (p : Paper) (fs : List F4) (nf : Bool) (sf : Nat) (hwf : p.wf) (hnf : nf = true → fs = []) (hsf : nf = false → sf = 4) (hl : fs.length ≤ 9223372036854775807) : (lim cfg).pure 18 [zt p, .sl nf (fs.map zP) sf none] = some (I (checkFF p fs)) := by
  have h15 := t15 p hwf
  have hlf := len_if (f := zP) hnf
  unfold check at h15
  unfold checkFF
  cases hok : zn p with
  | false =>
    rw [hok] at h15
    simp only [Bool.false_eq_true, if_false] at h15 ⊢
    refine zm (zj 18) cfn18 rfl (n := 83) rfl ?_
    simp only [bW, if_true, Nat.reduceEqDiff, if_false, zl]
    repeat' first
      | (intro hb; first | cases hb | skip)
      | ((first | apply z8 | apply ze)
         · rfl
         · simp (disch := assumption) only [go_sem, Nat.reduceEqDiff, Nat.reduceAdd, bP, zf, Nat.reduceLeDiff, Nat.reduceLT, Nat.reduceMul, List.length_append, decide_eq_true_eq, z9, z6, Int.reduceToNat, Int.reduceLE, Int.reduceLT, Int.reduceBNe, Int.reduceBEq, h15]
           rfl
         · simp only [go_sem, Nat.reduceLT, Nat.reduceEqDiff]
           rfl
         · rfl
         first
         | (apply zd
            · simp only [z5, z0, Nat.reduceLT, decide_true, cond_true, ins]
              rfl
            · simp only [z5, z0, Nat.reduceLT, decide_true, cond_true, ins]
              rfl)
         | (apply zh
            · simp only [z5, z0, Nat.reduceLT, decide_true, cond_true, ins]
              rfl))
      | ((first | apply zb | apply zc)
         · rfl
         · simp only [z5, z0, Nat.reduceLT, decide_true, cond_true, ins]
           rfl)
      | (apply za
         · simp only [go_sem, Nat.reduceEqDiff])
      | (apply z7
         · simp only [go_sem, Nat.reduceEqDiff])
      | (apply zg
         · kernel_rfl
         · kernel_rfl)
      | (simp only [bW, if_true, Nat.reduceEqDiff, if_false])
    all_goals try simp only [go_sem, Nat.reduceEqDiff, bP, Nat.reduceAdd, Nat.reduceLeDiff, List.length_map, Tryd.f18]
    all_goals first | done | rfl | (simp_all []; done) | trace_state
  | true =>
    rw [hok] at h15
    simp only [if_true] at h15 ⊢
    obtain ⟨o1, o2, _⟩ := zC hok
    have e1 : IntKind.i64.wrap (0 + 1) = 1 := by decide
    have e2 : IntKind.i64.wrap (1 + 1) = 2 := by decide
    by_cases hlen : (fs.length : Int) = p.sheets
    · have hne : ((fs.length : Int) != p.sheets) = false := by simp [hlen]
      refine zm (zj 18) cfn18 rfl (n := 83) rfl ?_
      generalize hF : finP cfg Tryd.f18 = F
      simp only [bW, if_true, Nat.reduceEqDiff, if_false, zl]
      repeat' first
        | (intro hb; first | cases hb | skip)
        | ((first | apply z8 | apply ze)
           · rfl
           · simp (disch := assumption) only [go_sem, Nat.reduceEqDiff, Nat.reduceAdd, bP, zf, Nat.reduceLeDiff, Nat.reduceLT, Nat.reduceMul, List.length_append, decide_eq_true_eq, z9, z6, Int.reduceToNat, Int.reduceLE, Int.reduceLT, Int.reduceBNe, Int.reduceBEq, h15, hlf, hne]
             rfl
           · simp only [go_sem, Nat.reduceLT, Nat.reduceEqDiff]
             rfl
           · rfl
           first
           | (apply zd
              · simp only [z5, z0, Nat.reduceLT, decide_true, cond_true, ins]
                rfl
              · simp only [z5, z0, Nat.reduceLT, decide_true, cond_true, ins]
                rfl)
           | (apply zh
              · simp only [z5, z0, Nat.reduceLT, decide_true, cond_true, ins]
                rfl))
        | ((first | apply zb | apply zc)
           · rfl
           · simp only [z5, z0, Nat.reduceLT, decide_true, cond_true, ins]
             rfl)
        | (apply za
           · simp only [go_sem, Nat.reduceEqDiff])
        | (apply z7
           · simp only [go_sem, Nat.reduceEqDiff])
        | (apply zg
           · kernel_rfl
           · kernel_rfl)
        | (simp only [bW, if_true, Nat.reduceEqDiff, if_false])
      have hend : ∀ v st, get st.tmps 4 = I v → F .ret st = some (I v) := by
        intro v st hd
        subst hF
        simp only [go_sem, Nat.reduceEqDiff, bP, Nat.reduceAdd, Nat.reduceLeDiff, List.length_map, Tryd.f18, hd]
      refine zS (st1 := ⟨83, [(2, .lref 0 0 3 0), (3, .lref 1 0 1 0), (24, .sl nf (fs.map zP) sf none), (25, I fs.length), (26, I (0 : Nat))], [(0, ⟨[zt p], 3, false⟩), (1, ⟨[.sl nf (fs.map zP) sf none], 1, false⟩)], 2, 0⟩) lk18_7 (by kernel_rfl) (L18_7 p fs nf sf _ _ hnf hsf hl (fun st hd => ?_) fs 0 rfl (Nat.zero_le _) (fun hfs => ?_) (fun hfs => by simp [hlen, hfs]))
      · simp only [bW, if_true, Nat.reduceEqDiff, if_false]
        exact hend 1 st hd
      · rw [if_pos ⟨hlen, hfs⟩]
        have h68a := t68 p 0 hwf hok
        have h68b := t68 p 1 hwf hok
        simp only [bW, if_true, Nat.reduceEqDiff, if_false]
        repeat' first
          | (intro hb; first | cases hb | skip)
          | ((first | apply z8 | apply ze)
             · rfl
             · simp (disch := assumption) only [go_sem, Nat.reduceEqDiff, Nat.reduceAdd, bP, zf, Nat.reduceLeDiff, Nat.reduceLT, Nat.reduceMul, List.length_append, decide_eq_true_eq, z9, z6, Int.reduceToNat, Int.reduceLE, Int.reduceLT, Int.reduceBNe, Int.reduceBEq]
               rfl
             · simp only [go_sem, Nat.reduceLT, Nat.reduceEqDiff]
               rfl
             · rfl
             first
             | (apply zd
                · simp only [z5, z0, Nat.reduceLT, decide_true, cond_true, ins]
                  rfl
                · simp only [z5, z0, Nat.reduceLT, decide_true, cond_true, ins]
                  rfl)
             | (apply zh
                · simp only [z5, z0, Nat.reduceLT, decide_true, cond_true, ins]
                  rfl))
          | ((first | apply zb | apply zc)
             · rfl
             · simp only [z5, z0, Nat.reduceLT, decide_true, cond_true, ins]
               rfl)
          | (apply za
             · simp only [go_sem, Nat.reduceEqDiff])
          | (apply z7
             · simp only [go_sem, Nat.reduceEqDiff])
          | (apply zg
             · kernel_rfl
             · kernel_rfl)
          | (simp only [bW, if_true, Nat.reduceEqDiff, if_false])
        refine zS (st1 := ⟨83, [(2, .lref 0 0 3 0), (3, .lref 1 0 1 0), (41, I 0)], [(0, ⟨[zt p], 3, false⟩), (1, ⟨[.sl nf (fs.map zP) sf none], 1, false⟩)], 2, 0⟩) lk18_13 (by kernel_rfl) ?_
        refine zk ?_
        try dsimp only [lp18_13, zz, zo, Tryd.f18]
        simp only [bW, if_true, Nat.reduceEqDiff, if_false]
        repeat' first
          | (intro hb; first | cases hb | skip)
          | ((first | apply z8 | apply ze)
             · rfl
             · simp (disch := assumption) only [go_sem, Nat.reduceEqDiff, Nat.reduceAdd, bP, zf, Nat.reduceLeDiff, Nat.reduceLT, Nat.reduceMul, List.length_append, decide_eq_true_eq, z9, z6, Int.reduceToNat, Int.reduceLE, Int.reduceLT, Int.reduceBNe, Int.reduceBEq, h68a, List.length_map]
               rfl
             · simp only [go_sem, Nat.reduceLT, Nat.reduceEqDiff]
               rfl
             · rfl
             first
             | (apply zd
                · simp only [z5, z0, Nat.reduceLT, decide_true, cond_true, ins]
                  rfl
                · simp only [z5, z0, Nat.reduceLT, decide_true, cond_true, ins]
                  rfl)
             | (apply zh
                · simp only [z5, z0, Nat.reduceLT, decide_true, cond_true, ins]
                  rfl))
          | ((first | apply zb | apply zc)
             · rfl
             · simp only [z5, z0, Nat.reduceLT, decide_true, cond_true, ins]
               rfl)
          | (apply za
             · simp only [go_sem, Nat.reduceEqDiff])
          | (apply z7
             · simp only [go_sem, Nat.reduceEqDiff])
          | (apply zg
             · kernel_rfl
             · kernel_rfl)
          | (simp only [bW, if_true, Nat.reduceEqDiff, if_false])
        refine zS (st1 := ⟨83, [(2, .lref 0 0 3 0), (3, .lref 1 0 1 0), (9, .fn (.func 67) [] [.lref 1 0 1 0, .lref 2 0 1 0]), (41, I 0), (47, .sl false ((zA p 0).map zQ) 7 none), (48, I (zA p 0).length), (49, I (0 : Nat))], [(0, ⟨[zt p], 3, false⟩), (1, ⟨[.sl nf (fs.map zP) sf none], 1, false⟩), (2, ⟨[I 0], 1, false⟩)], 3, 0⟩) lk18_17 (by kernel_rfl) (L18_17_0 p fs nf sf (zA p 0) _ _ hnf hsf hfs (by omega) (fun e he => ⟨(edgesB hok 0).1 e he, by have := edges_sheets hok 0 e he; omega, by have := edges_sheets hok 0 e he; omega⟩) (edgesB hok 0).2 (fun st hd => ?_) (zA p 0) 0 rfl (Nat.zero_le _) (fun ha => ?_) (fun ha => ?_))
        · simp only [bW, if_true, Nat.reduceEqDiff, if_false]
          exact hend 31 st hd
        · have ha0 : factorsFine p fs 0 = true := ha
          clear ha
          simp only [bW, if_true, Nat.reduceEqDiff, if_false]
          repeat' first
            | (intro hb; first | cases hb | skip)
            | ((first | apply z8 | apply ze)
               · rfl
               · simp (disch := assumption) only [go_sem, Nat.reduceEqDiff, Nat.reduceAdd, bP, zf, Nat.reduceLeDiff, Nat.reduceLT, Nat.reduceMul, List.length_append, decide_eq_true_eq, z9, z6, Int.reduceToNat, Int.reduceLE, Int.reduceLT, Int.reduceBNe, Int.reduceBEq, e1]
                 rfl
               · simp only [go_sem, Nat.reduceLT, Nat.reduceEqDiff]
                 rfl
               · rfl
               first
               | (apply zd
                  · simp only [z5, z0, Nat.reduceLT, decide_true, cond_true, ins]
                    rfl
                  · simp only [z5, z0, Nat.reduceLT, decide_true, cond_true, ins]
                    rfl)
               | (apply zh
                  · simp only [z5, z0, Nat.reduceLT, decide_true, cond_true, ins]
                    rfl))
            | ((first | apply zb | apply zc)
               · rfl
               · simp only [z5, z0, Nat.reduceLT, decide_true, cond_true, ins]
                 rfl)
            | (apply za
               · simp only [go_sem, Nat.reduceEqDiff])
            | (apply z7
               · simp only [go_sem, Nat.reduceEqDiff])
            | (apply zg
               · kernel_rfl
               · kernel_rfl)
            | (simp only [bW, if_true, Nat.reduceEqDiff, if_false])
          refine zu (st1 := ⟨83, [(2, .lref 0 0 3 0), (3, .lref 1 0 1 0), (41, I 1)], [(0, ⟨[zt p], 3, false⟩), (1, ⟨[.sl nf (fs.map zP) sf none], 1, false⟩)], 2, 0⟩) lk18_13 (by kernel_rfl) ?_
          refine zk ?_
          try dsimp only [lp18_13, zz, zo, Tryd.f18]
          simp only [bW, if_true, Nat.reduceEqDiff, if_false]
          repeat' first
            | (intro hb; first | cases hb | skip)
            | ((first | apply z8 | apply ze)
               · rfl
               · simp (disch := assumption) only [go_sem, Nat.reduceEqDiff, Nat.reduceAdd, bP, zf, Nat.reduceLeDiff, Nat.reduceLT, Nat.reduceMul, List.length_append, decide_eq_true_eq, z9, z6, Int.reduceToNat, Int.reduceLE, Int.reduceLT, Int.reduceBNe, Int.reduceBEq, h68b, List.length_map]
                 rfl
               · simp only [go_sem, Nat.reduceLT, Nat.reduceEqDiff]
                 rfl
               · rfl
               first
               | (apply zd
                  · simp only [z5, z0, Nat.reduceLT, decide_true, cond_true, ins]
                    rfl
                  · simp only [z5, z0, Nat.reduceLT, decide_true, cond_true, ins]
                    rfl)
               | (apply zh
                  · simp only [z5, z0, Nat.reduceLT, decide_true, cond_true, ins]
                    rfl))
            | ((first | apply zb | apply zc)
               · rfl
               · simp only [z5, z0, Nat.reduceLT, decide_true, cond_true, ins]
                 rfl)
            | (apply za
               · simp only [go_sem, Nat.reduceEqDiff])
            | (apply z7
               · simp only [go_sem, Nat.reduceEqDiff])
            | (apply zg
               · kernel_rfl
               · kernel_rfl)
            | (simp only [bW, if_true, Nat.reduceEqDiff, if_false])
          refine zS (st1 := ⟨83, [(2, .lref 0 0 3 0), (3, .lref 1 0 1 0), (9, .fn (.func 67) [] [.lref 1 0 1 0, .lref 2 0 1 0]), (41, I 1), (47, .sl false ((zA p 1).map zQ) 7 none), (48, I (zA p 1).length), (49, I (0 : Nat))], [(0, ⟨[zt p], 3, false⟩), (1, ⟨[.sl nf (fs.map zP) sf none], 1, false⟩), (2, ⟨[I 1], 1, false⟩)], 3, 0⟩) lk18_17 (by kernel_rfl) (L18_17_1 p fs nf sf (zA p 1) _ _ hnf hsf hfs (by omega) (fun e he => ⟨(edgesB hok 1).1 e he, by have := edges_sheets hok 1 e he; omega, by have := edges_sheets hok 1 e he; omega⟩) (edgesB hok 1).2 (fun st hd => ?_) (zA p 1) 0 rfl (Nat.zero_le _) (fun ha => ?_) (fun ha => ?_))
          · simp only [bW, if_true, Nat.reduceEqDiff, if_false]
            exact hend 31 st hd
          · have ha1 : factorsFine p fs 1 = true := ha
            simp only [bW, if_true, Nat.reduceEqDiff, if_false]
            repeat' first
              | (intro hb; first | cases hb | skip)
              | ((first | apply z8 | apply ze)
                 · rfl
                 · simp (disch := assumption) only [go_sem, Nat.reduceEqDiff, Nat.reduceAdd, bP, zf, Nat.reduceLeDiff, Nat.reduceLT, Nat.reduceMul, List.length_append, decide_eq_true_eq, z9, z6, Int.reduceToNat, Int.reduceLE, Int.reduceLT, Int.reduceBNe, Int.reduceBEq, e2]
                   rfl
                 · simp only [go_sem, Nat.reduceLT, Nat.reduceEqDiff]
                   rfl
                 · rfl
                 first
                 | (apply zd
                    · simp only [z5, z0, Nat.reduceLT, decide_true, cond_true, ins]
                      rfl
                    · simp only [z5, z0, Nat.reduceLT, decide_true, cond_true, ins]
                      rfl)
                 | (apply zh
                    · simp only [z5, z0, Nat.reduceLT, decide_true, cond_true, ins]
                      rfl))
              | ((first | apply zb | apply zc)
                 · rfl
                 · simp only [z5, z0, Nat.reduceLT, decide_true, cond_true, ins]
                   rfl)
              | (apply za
                 · simp only [go_sem, Nat.reduceEqDiff])
              | (apply z7
                 · simp only [go_sem, Nat.reduceEqDiff])
              | (apply zg
                 · kernel_rfl
                 · kernel_rfl)
              | (simp only [bW, if_true, Nat.reduceEqDiff, if_false])
            refine zu (st1 := ⟨83, [(2, .lref 0 0 3 0), (3, .lref 1 0 1 0), (41, I 2)], [(0, ⟨[zt p], 3, false⟩), (1, ⟨[.sl nf (fs.map zP) sf none], 1, false⟩)], 2, 0⟩) lk18_13 (by kernel_rfl) ?_
            refine zk ?_
            try dsimp only [lp18_13, zz, zo, Tryd.f18]
            simp only [bW, if_true, Nat.reduceEqDiff, if_false]
            repeat' first
              | (intro hb; first | cases hb | skip)
              | ((first | apply z8 | apply ze)
                 · rfl
                 · simp (disch := assumption) only [go_sem, Nat.reduceEqDiff, Nat.reduceAdd, bP, zf, Nat.reduceLeDiff, Nat.reduceLT, Nat.reduceMul, List.length_append, decide_eq_true_eq, z9, z6, Int.reduceToNat, Int.reduceLE, Int.reduceLT, Int.reduceBNe, Int.reduceBEq]
                   rfl
                 · simp only [go_sem, Nat.reduceLT, Nat.reduceEqDiff]
                   rfl
                 · rfl
                 first
                 | (apply zd
                    · simp only [z5, z0, Nat.reduceLT, decide_true, cond_true, ins]
                      rfl
                    · simp only [z5, z0, Nat.reduceLT, decide_true, cond_true, ins]
                      rfl)
                 | (apply zh
                    · simp only [z5, z0, Nat.reduceLT, decide_true, cond_true, ins]
                      rfl))
              | ((first | apply zb | apply zc)
                 · rfl
                 · simp only [z5, z0, Nat.reduceLT, decide_true, cond_true, ins]
                   rfl)
              | (apply za
                 · simp only [go_sem, Nat.reduceEqDiff])
              | (apply z7
                 · simp only [go_sem, Nat.reduceEqDiff])
              | (apply zg
                 · kernel_rfl
                 · kernel_rfl)
              | (simp only [bW, if_true, Nat.reduceEqDiff, if_false])
            simp only [ha0, ha1, Bool.and_self, if_true]
            exact hend 0 _ rfl
          · change factorsFine p fs 1 = false at ha
            simp [ha]
        · change factorsFine p fs 0 = false at ha
          simp [ha]
    · have hne : ((fs.length : Int) != p.sheets) = true := by simp [hlen]
      rw [if_neg (fun h => hlen h.1)]
      refine zm (zj 18) cfn18 rfl (n := 83) rfl ?_
      simp only [bW, if_true, Nat.reduceEqDiff, if_false, zl]
      repeat' first
        | (intro hb; first | cases hb | skip)
        | ((first | apply z8 | apply ze)
           · rfl
           · simp (disch := assumption) only [go_sem, Nat.reduceEqDiff, Nat.reduceAdd, bP, zf, Nat.reduceLeDiff, Nat.reduceLT, Nat.reduceMul, List.length_append, decide_eq_true_eq, z9, z6, Int.reduceToNat, Int.reduceLE, Int.reduceLT, Int.reduceBNe, Int.reduceBEq, h15, hlf, hne]
             rfl
           · simp only [go_sem, Nat.reduceLT, Nat.reduceEqDiff]
             rfl
           · rfl
           first
           | (apply zd
              · simp only [z5, z0, Nat.reduceLT, decide_true, cond_true, ins]
                rfl
              · simp only [z5, z0, Nat.reduceLT, decide_true, cond_true, ins]
                rfl)
           | (apply zh
              · simp only [z5, z0, Nat.reduceLT, decide_true, cond_true, ins]
                rfl))
        | ((first | apply zb | apply zc)
           · rfl
           · simp only [z5, z0, Nat.reduceLT, decide_true, cond_true, ins]
             rfl)
        | (apply za
           · simp only [go_sem, Nat.reduceEqDiff])
        | (apply z7
           · simp only [go_sem, Nat.reduceEqDiff])
        | (apply zg
           · kernel_rfl
           · kernel_rfl)
        | (simp only [bW, if_true, Nat.reduceEqDiff, if_false])
      all_goals try simp only [go_sem, Nat.reduceEqDiff, bP, Nat.reduceAdd, Nat.reduceLeDiff, List.length_map, Tryd.f18]
      all_goals first | done | rfl | (simp_all []; done) | trace_state

end Go.VS
namespace Go.VS
open Go Go.Proofs
set_option maxHeartbeats 0
set_option linter.unusedSimpArgs false

set_option maxRecDepth 100000
theorem ckI {S : Sm} {objs : List (Nat × Ob)} {nxt : Nat} {args : List D} : zy cfg S objs nxt 62 args = callInl S objs nxt 62 args := by
  simp only [zy, cfg_fn, cfn62]
  rfl
theorem i62 : (lim cfg).inl 62 [] [] 0 = some (.agg [I 2, .lsl 1 0 1 5 (some 1), .lsl 2 0 1 7 (some 1)], [(0, ⟨[.agg [I 2, .lsl 1 0 1 5 (some 1), .lsl 2 0 1 7 (some 1)]], 3, false⟩), (1, ⟨[.agg [I 0, I 0, I 100, I 98, I 1]], 5, false⟩), (2, ⟨[.agg [I 0, I 1, I 0, I 50, I 1, I 100, I 2]], 7, false⟩)], 3) := inl_of (by kernel_rfl)
theorem wf1 : example1.wf := ⟨by simp [example1], by simp [example1], by simp [example1], by simp [example1]⟩
def example2 : Paper := ⟨2, false, [⟨0, 0, 100, 98, 1⟩, ⟨1, 0, 10, 10, 0⟩], false, [⟨0, 1, 0, 50, 1, 100, 2⟩]⟩
theorem wf2 : example2.wf := ⟨by simp [example2], by simp [example2], by simp [example2], by simp [example2]⟩
theorem f20a : (lim cfg).pure 20 [.agg [I 2, .sl false [.agg [I 0, I 0, I 100, I 98, I 1]] 5 none, .sl false [.agg [I 0, I 1, I 0, I 50, I 1, I 100, I 2]] 7 none], I 0, I 0] = some (.tup [.agg [I 97, I 100], .agg [I 99, I 100], I 0]) := (t20 example1 0 0 wf1).trans (by kernel_rfl)
theorem f20b : (lim cfg).pure 20 [.agg [I 2, .sl false [.agg [I 0, I 0, I 100, I 98, I 1]] 5 none, .sl false [.agg [I 0, I 1, I 0, I 50, I 1, I 100, I 2]] 7 none], I 1, I 0] = some (.tup [.agg [I 4753, I 2550], .agg [I 2, I 1], I 0]) := (t20 example1 1 0 wf1).trans (by kernel_rfl)
theorem f19 : (lim cfg).pure 19 [.agg [I 2, .sl false [.agg [I 0, I 0, I 100, I 98, I 1]] 5 none, .sl false [.agg [I 0, I 1, I 0, I 50, I 1, I 100, I 2]] 7 none], I 0, I 1, I 0] = some (.tup [.agg [I 51, I 98], I 0]) := (t19 example1 0 1 0 wf1).trans (by kernel_rfl)
theorem f49 : (lim cfg).pure 49 [.agg [I 2, .sl false [.agg [I 0, I 0, I 100, I 98, I 1]] 5 none, .sl false [.agg [I 0, I 1, I 0, I 50, I 1, I 100, I 2]] 7 none], I 1, I 0, B false] = some (.tup [.sl false [.agg [B false, I 0, B true], .agg [B true, I 0, B false]] 3 none, I 0]) := (t49 example1 1 0 false wf1).trans (by kernel_rfl)
theorem f57 : (lim cfg).pure 57 [.sl false [.agg [B false, I 0, B true], .agg [B true, I 0, B false]] 3 none, .sl false [.agg [B false, I 0, B true], .agg [B true, I 0, B false]] 3 none] = some (B true) :=
  (t57 false false 3 3 [⟨false, 0, true⟩, ⟨true, 0, false⟩] [⟨false, 0, true⟩, ⟨true, 0, false⟩] (by simp) (by simp) (by simp) (by simp) (by simp) (by simp)).trans (by kernel_rfl)
theorem f71 : (lim cfg).pure 71 [.agg [I 2, .sl false [.agg [I 0, I 0, I 100, I 98, I 1]] 5 none, .sl false [.agg [I 0, I 1, I 0, I 50, I 1, I 100, I 2]] 7 none], I 0, .sl false [I 0] 1 none] = some (I 0) := (t71 example1 0 false [0] wf1 1 (by simp) (by simp) (by simp)).trans (by kernel_rfl)
theorem f73 : (lim cfg).pure 73 [.agg [I 2, .sl false [.agg [I 0, I 0, I 100, I 98, I 1]] 5 none, .sl false [.agg [I 0, I 1, I 0, I 50, I 1, I 100, I 2]] 7 none], I 0, I 0] = some (.agg [I 97, I 100, I 99, I 100]) := (t73 example1 0 0 wf1 (by kernel_rfl) (by kernel_rfl)).trans (by kernel_rfl)
theorem f89 : (lim cfg).pure 89 [.agg [I 10, I 10], .agg [I 100, I 99], .agg [I 100, I 97]] = some (.agg [I 10, I 11]) := lim_pure.2 ⟨30, by kernel_rfl⟩
theorem f85 : (lim cfg).pure 85 [.agg [I 10, I 10]] = some (B true) := (t85 ⟨10, 10⟩).trans (by kernel_rfl)
theorem f86 : (lim cfg).pure 86 [.agg [I 2, .sl false [.agg [I 0, I 0, I 100, I 98, I 1]] 5 none, .sl false [.agg [I 0, I 1, I 0, I 50, I 1, I 100, I 2]] 7 none], I 0, I 0, .agg [I 10, I 10]] = some (.agg [I 10, I 11]) := by
  refine zm (zj 86) cfn86 rfl (n := 22) rfl ?_
  simp only [bW, if_true, Nat.reduceEqDiff, if_false, zl]
  repeat' first
    | (intro hb; first | cases hb | skip)
    | ((first | apply z8 | apply ze)
       · rfl
       · simp (disch := assumption) only [go_sem, Nat.reduceEqDiff, Nat.reduceAdd, bP, zf, Nat.reduceLeDiff, Nat.reduceLT, Nat.reduceMul, List.length_append, decide_eq_true_eq, z9, z6, Int.reduceToNat, Int.reduceLE, Int.reduceLT, Int.reduceBNe, Int.reduceBEq, f73, t97, f89]
         rfl
       · simp only [go_sem, Nat.reduceLT, Nat.reduceEqDiff]
         rfl
       · rfl
       first
       | (apply zd
          · simp only [z5, z0, Nat.reduceLT, decide_true, cond_true, ins]
            rfl
          · simp only [z5, z0, Nat.reduceLT, decide_true, cond_true, ins]
            rfl)
       | (apply zh
          · simp only [z5, z0, Nat.reduceLT, decide_true, cond_true, ins]
            rfl))
    | ((first | apply zb | apply zc)
       · rfl
       · simp only [z5, z0, Nat.reduceLT, decide_true, cond_true, ins]
         rfl)
    | (apply za
       · simp only [go_sem, Nat.reduceEqDiff])
    | (apply z7
       · simp only [go_sem, Nat.reduceEqDiff])
    | (apply zg
       · kernel_rfl
       · kernel_rfl)
    | (simp only [bW, if_true, Nat.reduceEqDiff, if_false])
  all_goals try simp only [go_sem, Nat.reduceEqDiff, bP, Nat.reduceAdd, Nat.reduceLeDiff, List.length_map, Tryd.f86]
  all_goals first | done | rfl | (simp_all []; done) | trace_state

theorem f38 : (lim cfg).pure 38 [.agg [I 2, .sl false [.agg [I 0, I 0, I 100, I 98, I 1]] 5 none, .sl false [.agg [I 0, I 1, I 0, I 50, I 1, I 100, I 2]] 7 none], I 0, I 0, .agg [I 10, I 10]] = some (.tup [.agg [I 10, I 11], I 0]) := by
  refine zm (zj 38) cfn38 rfl (n := 29) rfl ?_
  simp only [bW, if_true, Nat.reduceEqDiff, if_false, zl]
  repeat' first
    | (intro hb; first | cases hb | skip)
    | ((first | apply z8 | apply ze)
       · rfl
       · simp (disch := assumption) only [go_sem, Nat.reduceEqDiff, Nat.reduceAdd, bP, zf, Nat.reduceLeDiff, Nat.reduceLT, Nat.reduceMul, List.length_append, decide_eq_true_eq, z9, z6, Int.reduceToNat, Int.reduceLE, Int.reduceLT, Int.reduceBNe, Int.reduceBEq, f71, f85, f86, show ((0 : Int) != 0) = false from rfl]
         rfl
       · simp only [go_sem, Nat.reduceLT, Nat.reduceEqDiff]
         rfl
       · rfl
       first
       | (apply zd
          · simp only [z5, z0, Nat.reduceLT, decide_true, cond_true, ins]
            rfl
          · simp only [z5, z0, Nat.reduceLT, decide_true, cond_true, ins]
            rfl)
       | (apply zh
          · simp only [z5, z0, Nat.reduceLT, decide_true, cond_true, ins]
            rfl))
    | ((first | apply zb | apply zc)
       · rfl
       · simp only [z5, z0, Nat.reduceLT, decide_true, cond_true, ins]
         rfl)
    | (apply za
       · simp only [go_sem, Nat.reduceEqDiff])
    | (apply z7
       · simp only [go_sem, Nat.reduceEqDiff])
    | (apply zg
       · kernel_rfl
       · kernel_rfl)
    | (simp only [bW, if_true, Nat.reduceEqDiff, if_false])
  all_goals try simp only [go_sem, Nat.reduceEqDiff, bP, Nat.reduceAdd, Nat.reduceLeDiff, List.length_map, Tryd.f38]
  all_goals first | done | rfl | (simp_all []; done) | trace_state

theorem f18 : (lim cfg).pure 18 [.agg [I 2, .sl false [.agg [I 0, I 0, I 100, I 98, I 1]] 5 none, .sl false [.agg [I 0, I 1, I 0, I 50, I 1, I 100, I 2]] 7 none], .sl false [.agg [I 98, I 100, I 1, I 1], .agg [I 196, I 100, I 1, I 1]] 4 none] = some (I 0) := (t18 example1 [⟨98, 100, 1, 1⟩, ⟨196, 100, 1, 1⟩] false 4 wf1 (by simp) (by simp) (by simp)).trans (by kernel_rfl)
theorem f30 : (lim cfg).pure 30 [.agg [I 2, .sl false [.agg [I 0, I 0, I 100, I 98, I 1], .agg [I 1, I 0, I 10, I 10, I 0]] 5 none, .sl false [.agg [I 0, I 1, I 0, I 50, I 1, I 100, I 2]] 7 none]] = some (.tup [B false, I 0]) := (t30 example2 wf2).trans (by kernel_rfl)
theorem f48 : (lim cfg).pure 48 [.agg [I 2, .sl false [.agg [I 0, I 0, I 100, I 98, I 1], .agg [I 1, I 0, I 10, I 10, I 0]] 5 none, .sl false [.agg [I 0, I 1, I 0, I 50, I 1, I 100, I 2]] 7 none]] = some (clashD (clashR example2)) := (t48 example2 wf2).trans (by kernel_rfl)
theorem f48' : ∃ w r, (lim cfg).pure 48 [.agg [I 2, .sl false [.agg [I 0, I 0, I 100, I 98, I 1], .agg [I 1, I 0, I 10, I 10, I 0]] 5 none, .sl false [.agg [I 0, I 1, I 0, I 50, I 1, I 100, I 2]] 7 none]] = some (.tup [.sl false (List.map encW (w :: r)) 3 none, B true, I 0]) := by
  have h : ((clashR example2).map fun c => c.why.isEmpty) = some false := by kernel_rfl
  rw [f48]
  cases hc : clashR example2 with
  | none => rw [hc] at h; cases h
  | some c =>
    rw [hc] at h
    obtain ⟨q, ws⟩ := c
    cases ws with
    | nil => simp at h
    | cons w r => exact ⟨w, r, rfl⟩
theorem f15 : (lim cfg).pure 15 [.agg [I 0, .sl true [] 0 none, .sl true [] 0 none]] = some (I 30) := lim_pure.2 ⟨30, by kernel_rfl⟩

theorem t14 : (lim cfg).pure 14 [] = some (B true) := by
  obtain ⟨w, r, hf48⟩ := f48'
  refine zm (zj 14) cfn14 rfl (n := 153) rfl ?_
  simp only [bW, if_true, Nat.reduceEqDiff, if_false, zl]
  repeat' first
    | (intro hb; first | cases hb | skip)
    | ((first | apply z8 | apply ze)
       · rfl
       · simp (disch := assumption) only [go_sem, Nat.reduceEqDiff, Nat.reduceAdd, bP, zf, Nat.reduceLeDiff, Nat.reduceLT, Nat.reduceMul, List.length_append, decide_eq_true_eq, z9, z6, Int.reduceToNat, Int.reduceLE, Int.reduceLT, Int.reduceBNe, Int.reduceBEq, ckI, i62, callInl, allBelow, only, keysO, allUpd, f20a, f20b, f19, f49, f57, t21, encR, f38, f18, f30, hf48, f15, whyD_one, zG, show ((0 : Int) != 0) = false from rfl]
         rfl
       · simp only [go_sem, Nat.reduceLT, Nat.reduceEqDiff]
         rfl
       · rfl
       first
       | (apply zd
          · simp only [z5, z0, Nat.reduceLT, decide_true, cond_true, ins]
            rfl
          · simp only [z5, z0, Nat.reduceLT, decide_true, cond_true, ins]
            rfl)
       | (apply zh
          · simp only [z5, z0, Nat.reduceLT, decide_true, cond_true, ins]
            rfl))
    | ((first | apply zb | apply zc)
       · rfl
       · simp only [z5, z0, Nat.reduceLT, decide_true, cond_true, ins]
         rfl)
    | (apply za
       · simp only [go_sem, Nat.reduceEqDiff])
    | (apply z7
       · simp only [go_sem, Nat.reduceEqDiff])
    | (apply zg
       · kernel_rfl
       · kernel_rfl)
    | (simp only [bW, if_true, Nat.reduceEqDiff, if_false])
  all_goals try simp only [go_sem, Nat.reduceEqDiff, bP, Nat.reduceAdd, Nat.reduceLeDiff, List.length_map, Tryd.f14]
  all_goals first | done | rfl | (simp_all []; done) | trace_state

end Go.VS
namespace Go.VS
open Go Go.Proofs
set_option maxHeartbeats 0
set_option linter.unusedSimpArgs false

theorem cmpI_neg {a b : Int} (h : a < b) : cmpI a b = -1 := by unfold cmpI; rw [if_neg (by omega), if_pos h]
theorem cmpI_pos {a b : Int} (h : b < a) : cmpI a b = 1 := by unfold cmpI; rw [if_neg (by omega), if_neg (by omega)]
theorem cmpI_self (a : Int) : cmpI a a = 0 := by unfold cmpI; rw [if_pos rfl]
theorem cmpI_add (a b c : Int) : cmpI (c + a) (c + b) = cmpI a b := by
  unfold cmpI
  by_cases h : a = b
  · rw [if_pos h, if_pos (by omega)]
  · rw [if_neg h, if_neg (by omega)]
    by_cases h2 : a < b
    · rw [if_pos h2, if_pos (by omega)]
    · rw [if_neg h2, if_neg (by omega)]
theorem quo_lt {n d n' d' : Nat} (hd : 0 < d) (hd' : 0 < d') (h : n / d < n' / d') : n * d' < n' * d := by
  have h1 : n < d * (n / d + 1) := Nat.lt_mul_div_succ n hd
  have h2 : d' * (n' / d') ≤ n' := Nat.mul_div_le n' d'
  calc n * d' < d * (n / d + 1) * d' := Nat.mul_lt_mul_of_pos_right h1 hd'
    _ ≤ d * (n' / d') * d' := Nat.mul_le_mul_right _ (Nat.mul_le_mul_left _ h)
    _ = d' * (n' / d') * d := by rw [Nat.mul_comm d, Nat.mul_right_comm, Nat.mul_comm _ d']
    _ ≤ n' * d := Nat.mul_le_mul_right _ h2
theorem cmp_quo {n d n' d' : Nat} (h : n / d = n' / d') : cmpI ((n : Int) * d') (n' * d) = cmpI ((d' : Int) * (n % d : Nat)) ((d : Int) * (n' % d' : Nat)) := by
  have h1 := Nat.div_add_mod n d
  have h2 := Nat.div_add_mod n' d'
  have e1 : n * d' = d * d' * (n / d) + d' * (n % d) := by
    conv => lhs; rw [← h1]
    rw [Nat.add_mul, Nat.mul_right_comm, Nat.mul_comm (n % d)]
  have e2 : n' * d = d * d' * (n / d) + d * (n' % d') := by
    conv => lhs; rw [← h2]
    rw [h, Nat.add_mul, Nat.mul_right_comm, Nat.mul_comm d' d, Nat.mul_comm (n' % d')]
  have e1' : (n : Int) * d' = (d * d' * (n / d) : Nat) + (d' : Int) * (n % d : Nat) := by
    rw [← Int.natCast_mul, e1, Int.natCast_add, Int.natCast_mul d']
  have e2' : (n' : Int) * d = (d * d' * (n / d) : Nat) + (d : Int) * (n' % d' : Nat) := by
    rw [← Int.natCast_mul, e2, Int.natCast_add, Int.natCast_mul d]
  rw [e1', e2', cmpI_add]

theorem t23 : ∀ (m n d n' d' : Nat), d + d' ≤ m → 0 < d → 0 < d' → n < 9223372036854775808 → d < 9223372036854775808 → n' < 9223372036854775808 → d' < 9223372036854775808 → (lim cfg).pure 23 [.agg [I n, I d], .agg [I n', I d']] = some (I (cmpI ((n : Int) * d') (n' * d))) := by
  intro m
  induction m with
  | zero => intro n d n' d' h hd hd'; omega
  | succ m ih =>
    intro n d n' d' h hd hd' b1 b2 b3 b4
    have hd0 : ((d : Int) = 0) = False := by simp; omega
    have hd0' : ((d' : Int) = 0) = False := by simp; omega
    have hq1 : IntKind.i64.wrap ((n : Int).tdiv (d : Int)) = ((n / d : Nat) : Int) := by rw [quo_wrap (by omega) (by omega) (by omega)]; rfl
    have hq2 : IntKind.i64.wrap ((n' : Int).tdiv (d' : Int)) = ((n' / d' : Nat) : Int) := by rw [quo_wrap (by omega) (by omega) (by omega)]; rfl
    have hm1 : (n : Int).tmod (d : Int) = ((n % d : Nat) : Int) := rfl
    have hm2 : (n' : Int).tmod (d' : Int) = ((n' % d' : Nat) : Int) := rfl
    have l1 := Nat.mod_lt n hd
    have l2 := Nat.mod_lt n' hd'
    rcases Nat.lt_trichotomy (n / d) (n' / d') with hq | hq | hq
    · have hz1 : (((n / d : Nat) : Int) < ((n' / d' : Nat) : Int)) = True := by simp only [eq_iff_iff, iff_true]; omega
      rw [cmpI_neg (by have := quo_lt hd hd' hq; rw [← Int.natCast_mul, ← Int.natCast_mul]; omega)]
      refine zm (zj 23) cfn23 rfl (n := 58) rfl ?_
      skip
      simp only [bW, if_true, Nat.reduceEqDiff, if_false, zl]
      repeat' first
        | (intro hb; first | cases hb | skip)
        | ((first | apply z8 | apply ze)
           · rfl
           · simp (disch := assumption) only [go_sem, Nat.reduceEqDiff, Nat.reduceAdd, bP, zf, Nat.reduceLeDiff, Nat.reduceLT, Nat.reduceMul, List.length_append, decide_eq_true_eq, z9, z6, Int.reduceToNat, Int.reduceLE, Int.reduceLT, Int.reduceBNe, Int.reduceBEq, hq1, hq2, hd0, hd0', hz1]
             rfl
           · simp only [go_sem, Nat.reduceLT, Nat.reduceEqDiff]
             rfl
           · rfl
           first
           | (apply zd
              · simp only [z5, z0, Nat.reduceLT, decide_true, cond_true, ins]
                rfl
              · simp only [z5, z0, Nat.reduceLT, decide_true, cond_true, ins]
                rfl)
           | (apply zh
              · simp only [z5, z0, Nat.reduceLT, decide_true, cond_true, ins]
                rfl))
        | ((first | apply zb | apply zc)
           · rfl
           · simp only [z5, z0, Nat.reduceLT, decide_true, cond_true, ins]
             rfl)
        | (apply za
           · simp only [go_sem, Nat.reduceEqDiff])
        | (apply z7
           · simp only [go_sem, Nat.reduceEqDiff])
        | (apply zg
           · kernel_rfl
           · kernel_rfl)
        | (simp only [bW, if_true, Nat.reduceEqDiff, if_false])
      all_goals try simp only [go_sem, Nat.reduceEqDiff, bP, Nat.reduceAdd, Nat.reduceLeDiff, List.length_map, Tryd.f23]
      all_goals first | done | rfl | (simp_all []; done) | trace_state

    · have hz1 : (((n' / d' : Nat) : Int) < ((n' / d' : Nat) : Int)) = False := by simp
      have hz2 : (((n' / d' : Nat) : Int) > ((n' / d' : Nat) : Int)) = False := by simp
      rw [hq] at hq1
      rw [cmp_quo hq]
      rcases Nat.eq_zero_or_pos (n % d) with hx | hx
      · rcases Nat.eq_zero_or_pos (n' % d') with hy | hy
        · rw [hx] at hm1
          rw [hy] at hm2
          rw [hx, hy]
          simp only [Int.natCast_zero, Int.mul_zero, cmpI_self]
          refine zm (zj 23) cfn23 rfl (n := 58) rfl ?_
          skip
          simp only [bW, if_true, Nat.reduceEqDiff, if_false, zl]
          repeat' first
            | (intro hb; first | cases hb | skip)
            | ((first | apply z8 | apply ze)
               · rfl
               · simp (disch := assumption) only [go_sem, Nat.reduceEqDiff, Nat.reduceAdd, bP, zf, Nat.reduceLeDiff, Nat.reduceLT, Nat.reduceMul, List.length_append, decide_eq_true_eq, z9, z6, Int.reduceToNat, Int.reduceLE, Int.reduceLT, Int.reduceBNe, Int.reduceBEq, hq1, hq2, hd0, hd0', hz1, hz2, hm1, hm2, Int.natCast_zero, beq_self_eq_true]
                 rfl
               · simp only [go_sem, Nat.reduceLT, Nat.reduceEqDiff]
                 rfl
               · rfl
               first
               | (apply zd
                  · simp only [z5, z0, Nat.reduceLT, decide_true, cond_true, ins]
                    rfl
                  · simp only [z5, z0, Nat.reduceLT, decide_true, cond_true, ins]
                    rfl)
               | (apply zh
                  · simp only [z5, z0, Nat.reduceLT, decide_true, cond_true, ins]
                    rfl))
            | ((first | apply zb | apply zc)
               · rfl
               · simp only [z5, z0, Nat.reduceLT, decide_true, cond_true, ins]
                 rfl)
            | (apply za
               · simp only [go_sem, Nat.reduceEqDiff])
            | (apply z7
               · simp only [go_sem, Nat.reduceEqDiff])
            | (apply zg
               · kernel_rfl
               · kernel_rfl)
            | (simp only [bW, if_true, Nat.reduceEqDiff, if_false])
          all_goals try simp only [go_sem, Nat.reduceEqDiff, bP, Nat.reduceAdd, Nat.reduceLeDiff, List.length_map, Tryd.f23]
          all_goals first | done | rfl | (simp_all []; done) | trace_state

        · have hy0 : (((n' % d' : Nat) : Int) == 0) = false := by simp; omega
          rw [hx] at hm1
          rw [hx]
          simp only [Int.natCast_zero, Int.mul_zero]
          rw [cmpI_neg (by rw [← Int.natCast_mul]; have := Nat.mul_pos hd hy; omega)]
          refine zm (zj 23) cfn23 rfl (n := 58) rfl ?_
          skip
          simp only [bW, if_true, Nat.reduceEqDiff, if_false, zl]
          repeat' first
            | (intro hb; first | cases hb | skip)
            | ((first | apply z8 | apply ze)
               · rfl
               · simp (disch := assumption) only [go_sem, Nat.reduceEqDiff, Nat.reduceAdd, bP, zf, Nat.reduceLeDiff, Nat.reduceLT, Nat.reduceMul, List.length_append, decide_eq_true_eq, z9, z6, Int.reduceToNat, Int.reduceLE, Int.reduceLT, Int.reduceBNe, Int.reduceBEq, hq1, hq2, hd0, hd0', hz1, hz2, hm1, hm2, Int.natCast_zero, beq_self_eq_true, hy0]
                 rfl
               · simp only [go_sem, Nat.reduceLT, Nat.reduceEqDiff]
                 rfl
               · rfl
               first
               | (apply zd
                  · simp only [z5, z0, Nat.reduceLT, decide_true, cond_true, ins]
                    rfl
                  · simp only [z5, z0, Nat.reduceLT, decide_true, cond_true, ins]
                    rfl)
               | (apply zh
                  · simp only [z5, z0, Nat.reduceLT, decide_true, cond_true, ins]
                    rfl))
            | ((first | apply zb | apply zc)
               · rfl
               · simp only [z5, z0, Nat.reduceLT, decide_true, cond_true, ins]
                 rfl)
            | (apply za
               · simp only [go_sem, Nat.reduceEqDiff])
            | (apply z7
               · simp only [go_sem, Nat.reduceEqDiff])
            | (apply zg
               · kernel_rfl
               · kernel_rfl)
            | (simp only [bW, if_true, Nat.reduceEqDiff, if_false])
          all_goals try simp only [go_sem, Nat.reduceEqDiff, bP, Nat.reduceAdd, Nat.reduceLeDiff, List.length_map, Tryd.f23]
          all_goals first | done | rfl | (simp_all []; done) | trace_state

      · have hx0 : (((n % d : Nat) : Int) == 0) = false := by simp; omega
        rcases Nat.eq_zero_or_pos (n' % d') with hy | hy
        · rw [hy] at hm2
          rw [hy]
          simp only [Int.natCast_zero, Int.mul_zero]
          rw [cmpI_pos (by rw [← Int.natCast_mul]; have := Nat.mul_pos hd' hx; omega)]
          refine zm (zj 23) cfn23 rfl (n := 58) rfl ?_
          skip
          simp only [bW, if_true, Nat.reduceEqDiff, if_false, zl]
          repeat' first
            | (intro hb; first | cases hb | skip)
            | ((first | apply z8 | apply ze)
               · rfl
               · simp (disch := assumption) only [go_sem, Nat.reduceEqDiff, Nat.reduceAdd, bP, zf, Nat.reduceLeDiff, Nat.reduceLT, Nat.reduceMul, List.length_append, decide_eq_true_eq, z9, z6, Int.reduceToNat, Int.reduceLE, Int.reduceLT, Int.reduceBNe, Int.reduceBEq, hq1, hq2, hd0, hd0', hz1, hz2, hm1, hm2, Int.natCast_zero, beq_self_eq_true, hx0]
                 rfl
               · simp only [go_sem, Nat.reduceLT, Nat.reduceEqDiff]
                 rfl
               · rfl
               first
               | (apply zd
                  · simp only [z5, z0, Nat.reduceLT, decide_true, cond_true, ins]
                    rfl
                  · simp only [z5, z0, Nat.reduceLT, decide_true, cond_true, ins]
                    rfl)
               | (apply zh
                  · simp only [z5, z0, Nat.reduceLT, decide_true, cond_true, ins]
                    rfl))
            | ((first | apply zb | apply zc)
               · rfl
               · simp only [z5, z0, Nat.reduceLT, decide_true, cond_true, ins]
                 rfl)
            | (apply za
               · simp only [go_sem, Nat.reduceEqDiff])
            | (apply z7
               · simp only [go_sem, Nat.reduceEqDiff])
            | (apply zg
               · kernel_rfl
               · kernel_rfl)
            | (simp only [bW, if_true, Nat.reduceEqDiff, if_false])
          all_goals try simp only [go_sem, Nat.reduceEqDiff, bP, Nat.reduceAdd, Nat.reduceLeDiff, List.length_map, Tryd.f23]
          all_goals first | done | rfl | (simp_all []; done) | trace_state

        · have hy0 : (((n' % d' : Nat) : Int) == 0) = false := by simp; omega
          have hr := ih d' (n' % d') d (n % d) (by omega) hy hx (by omega) (by omega) (by omega) (by omega)
          refine zm (zj 23) cfn23 rfl (n := 58) rfl ?_
          skip
          simp only [bW, if_true, Nat.reduceEqDiff, if_false, zl]
          repeat' first
            | (intro hb; first | cases hb | skip)
            | ((first | apply z8 | apply ze)
               · rfl
               · simp (disch := assumption) only [go_sem, Nat.reduceEqDiff, Nat.reduceAdd, bP, zf, Nat.reduceLeDiff, Nat.reduceLT, Nat.reduceMul, List.length_append, decide_eq_true_eq, z9, z6, Int.reduceToNat, Int.reduceLE, Int.reduceLT, Int.reduceBNe, Int.reduceBEq, hq1, hq2, hd0, hd0', hz1, hz2, hm1, hm2, hx0, hy0, hr]
                 rfl
               · simp only [go_sem, Nat.reduceLT, Nat.reduceEqDiff]
                 rfl
               · rfl
               first
               | (apply zd
                  · simp only [z5, z0, Nat.reduceLT, decide_true, cond_true, ins]
                    rfl
                  · simp only [z5, z0, Nat.reduceLT, decide_true, cond_true, ins]
                    rfl)
               | (apply zh
                  · simp only [z5, z0, Nat.reduceLT, decide_true, cond_true, ins]
                    rfl))
            | ((first | apply zb | apply zc)
               · rfl
               · simp only [z5, z0, Nat.reduceLT, decide_true, cond_true, ins]
                 rfl)
            | (apply za
               · simp only [go_sem, Nat.reduceEqDiff])
            | (apply z7
               · simp only [go_sem, Nat.reduceEqDiff])
            | (apply zg
               · kernel_rfl
               · kernel_rfl)
            | (simp only [bW, if_true, Nat.reduceEqDiff, if_false])
          all_goals try simp only [go_sem, Nat.reduceEqDiff, bP, Nat.reduceAdd, Nat.reduceLeDiff, List.length_map, Tryd.f23]
          all_goals first | done | rfl | (simp_all []; done) | trace_state

    · have hz1 : (((n / d : Nat) : Int) < ((n' / d' : Nat) : Int)) = False := by simp only [eq_iff_iff, iff_false]; omega
      have hz2 : (((n / d : Nat) : Int) > ((n' / d' : Nat) : Int)) = True := by simp only [eq_iff_iff, iff_true]; omega
      rw [cmpI_pos (by have := quo_lt hd' hd hq; rw [← Int.natCast_mul, ← Int.natCast_mul]; omega)]
      refine zm (zj 23) cfn23 rfl (n := 58) rfl ?_
      skip
      simp only [bW, if_true, Nat.reduceEqDiff, if_false, zl]
      repeat' first
        | (intro hb; first | cases hb | skip)
        | ((first | apply z8 | apply ze)
           · rfl
           · simp (disch := assumption) only [go_sem, Nat.reduceEqDiff, Nat.reduceAdd, bP, zf, Nat.reduceLeDiff, Nat.reduceLT, Nat.reduceMul, List.length_append, decide_eq_true_eq, z9, z6, Int.reduceToNat, Int.reduceLE, Int.reduceLT, Int.reduceBNe, Int.reduceBEq, hq1, hq2, hd0, hd0', hz1, hz2]
             rfl
           · simp only [go_sem, Nat.reduceLT, Nat.reduceEqDiff]
             rfl
           · rfl
           first
           | (apply zd
              · simp only [z5, z0, Nat.reduceLT, decide_true, cond_true, ins]
                rfl
              · simp only [z5, z0, Nat.reduceLT, decide_true, cond_true, ins]
                rfl)
           | (apply zh
              · simp only [z5, z0, Nat.reduceLT, decide_true, cond_true, ins]
                rfl))
        | ((first | apply zb | apply zc)
           · rfl
           · simp only [z5, z0, Nat.reduceLT, decide_true, cond_true, ins]
             rfl)
        | (apply za
           · simp only [go_sem, Nat.reduceEqDiff])
        | (apply z7
           · simp only [go_sem, Nat.reduceEqDiff])
        | (apply zg
           · kernel_rfl
           · kernel_rfl)
        | (simp only [bW, if_true, Nat.reduceEqDiff, if_false])
      all_goals try simp only [go_sem, Nat.reduceEqDiff, bP, Nat.reduceAdd, Nat.reduceLeDiff, List.length_map, Tryd.f23]
      all_goals first | done | rfl | (simp_all []; done) | trace_state


theorem rat_nat {n : Int} (h : 0 ≤ n) : ∃ k : Nat, n = k := Int.eq_ofNat_of_zero_le h
theorem t23i (n d n' d' : Int) (h1 : 0 ≤ n) (h2 : n < 9223372036854775808) (h3 : 1 ≤ d) (h4 : d < 9223372036854775808) (h5 : 0 ≤ n') (h6 : n' < 9223372036854775808) (h7 : 1 ≤ d') (h8 : d' < 9223372036854775808) : (lim cfg).pure 23 [.agg [I n, I d], .agg [I n', I d']] = some (I (cmpI (n * d') (n' * d))) := by
  obtain ⟨x1, rfl⟩ := rat_nat (show 0 ≤ n by omega)
  obtain ⟨x2, rfl⟩ := rat_nat (show 0 ≤ d by omega)
  obtain ⟨x3, rfl⟩ := rat_nat (show 0 ≤ n' by omega)
  obtain ⟨x4, rfl⟩ := rat_nat (show 0 ≤ d' by omega)
  exact t23 _ x1 x2 x3 x4 (Nat.le_refl _) (by omega) (by omega) (by omega) (by omega) (by omega) (by omega)
theorem cmpI_lt0 (a b : Int) : (cmpI a b < 0) = (a < b) := by
  unfold cmpI; simp only [eq_iff_iff]
  split
  · omega
  · split <;> omega
theorem cmpI_gt0 (a b : Int) : (cmpI a b > 0) = (b < a) := by
  unfold cmpI; simp only [eq_iff_iff]
  split
  · omega
  · split <;> omega
theorem cmpI_ge0 (a b : Int) : (cmpI a b ≥ 0) = (b ≤ a) := by
  unfold cmpI; simp only [eq_iff_iff]
  split
  · omega
  · split <;> omega
theorem cmpI_le0 (a b : Int) : (cmpI a b ≤ 0) = (a ≤ b) := by
  unfold cmpI; simp only [eq_iff_iff]
  split
  · omega
  · split <;> omega

theorem t77 (n lo hi : Int) : (lim cfg).pure 77 [I n, I lo, I hi] = some (B (decide (lo ≤ n) && decide (n ≤ hi))) := by
  refine zm (zj 77) cfn77 rfl (n := 15) rfl ?_
  simp only [bW, if_true, Nat.reduceEqDiff, if_false, zl]
  repeat' first
    | (intro hb; first | cases hb | skip)
    | ((first | apply z8 | apply ze)
       · rfl
       · simp (disch := assumption) only [go_sem, Nat.reduceEqDiff, Nat.reduceAdd, bP, zf, Nat.reduceLeDiff, Nat.reduceLT, Nat.reduceMul, List.length_append, decide_eq_true_eq, z9, z6, Int.reduceToNat, Int.reduceLE, Int.reduceLT, Int.reduceBNe, Int.reduceBEq]
         rfl
       · simp only [go_sem, Nat.reduceLT, Nat.reduceEqDiff]
         rfl
       · rfl
       first
       | (apply zd
          · simp only [z5, z0, Nat.reduceLT, decide_true, cond_true, ins]
            rfl
          · simp only [z5, z0, Nat.reduceLT, decide_true, cond_true, ins]
            rfl)
       | (apply zh
          · simp only [z5, z0, Nat.reduceLT, decide_true, cond_true, ins]
            rfl))
    | ((first | apply zb | apply zc)
       · rfl
       · simp only [z5, z0, Nat.reduceLT, decide_true, cond_true, ins]
         rfl)
    | (apply za
       · simp only [go_sem, Nat.reduceEqDiff])
    | (apply z7
       · simp only [go_sem, Nat.reduceEqDiff])
    | (apply zg
       · kernel_rfl
       · kernel_rfl)
    | (simp only [bW, if_true, Nat.reduceEqDiff, if_false])
  all_goals simp only [go_sem, Nat.reduceEqDiff, bP, Nat.reduceAdd, Nat.reduceLeDiff, List.length_map, Tryd.f77]
  all_goals first | rfl | (simp_all []; done) | (simp_all []; intros; omega)

theorem t76 (a : Ratio) : (lim cfg).pure 76 [encR a] = some (B (ratioOK a)) := by
  refine zm (zj 76) cfn76 rfl (n := 11) rfl ?_
  simp only [bW, if_true, Nat.reduceEqDiff, if_false, zl]
  repeat' first
    | (intro hb; first | cases hb | skip)
    | ((first | apply z8 | apply ze)
       · rfl
       · simp (disch := assumption) only [go_sem, Nat.reduceEqDiff, Nat.reduceAdd, bP, zf, Nat.reduceLeDiff, Nat.reduceLT, Nat.reduceMul, List.length_append, decide_eq_true_eq, z9, z6, Int.reduceToNat, Int.reduceLE, Int.reduceLT, Int.reduceBNe, Int.reduceBEq, t77, encR]
         rfl
       · simp only [go_sem, Nat.reduceLT, Nat.reduceEqDiff]
         rfl
       · rfl
       first
       | (apply zd
          · simp only [z5, z0, Nat.reduceLT, decide_true, cond_true, ins]
            rfl
          · simp only [z5, z0, Nat.reduceLT, decide_true, cond_true, ins]
            rfl)
       | (apply zh
          · simp only [z5, z0, Nat.reduceLT, decide_true, cond_true, ins]
            rfl))
    | ((first | apply zb | apply zc)
       · rfl
       · simp only [z5, z0, Nat.reduceLT, decide_true, cond_true, ins]
         rfl)
    | (apply za
       · simp only [go_sem, Nat.reduceEqDiff])
    | (apply z7
       · simp only [go_sem, Nat.reduceEqDiff])
    | (apply zg
       · kernel_rfl
       · kernel_rfl)
    | (simp only [bW, if_true, Nat.reduceEqDiff, if_false])
  all_goals simp only [go_sem, Nat.reduceEqDiff, bP, Nat.reduceAdd, Nat.reduceLeDiff, List.length_map, Tryd.f76]
  all_goals first | rfl | (simp_all [ratioOK]; done) | (simp_all [ratioOK]; intros; omega)

end Go.VS
