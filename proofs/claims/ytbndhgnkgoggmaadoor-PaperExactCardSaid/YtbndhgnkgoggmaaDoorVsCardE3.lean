/- Nothing of a statement is proved in this text alone: it is part 3 of the proof's own tools, an evaluator of the code over deep values, its soundness, and what it makes of this seat's functions. Conditions: none beyond the statement's own. -/
import Derived.Test.YtbndhgnkgoggmaaDoorVsCardE2
set_option linter.unusedSimpArgs false
set_option linter.unusedVariables false
namespace Go.VS
open Go Go.Proofs
set_option maxHeartbeats 0
set_option linter.unusedSimpArgs false

theorem t63' (p : Paper) (s : Int) : (lim cfg).pure 63 [zN p, I s] = some (B (zz p s)) := t63 _ _ _ _ _ _ _ s
theorem t64' (x : Int) : (lim cfg).pure 64 [I x] = some (B (zR x)) := t64 x
def namedF (p : Paper) (ax : Int) (ss : List Int) : Int := if ss.all (zz p) && zR ax then 0 else 1
def possibleF (p : Paper) : Bool := (clashA p 0).isNone && (clashA p 1).isNone
def knownF (p : Paper) (ax : Int) (ss : List Int) : Int := if zr p then (if possibleF p then namedF p ax ss else 31) else 30

noncomputable def lp95_2 : Code := zM [1, 0, 1, 0, 0] (zy Tryd.f95)
theorem lk95_2 : cfg.keep 95 (zA lp95_2) = [1, 3, 9, 10, 11] := by kernel_rfl

theorem L95_2 {F : Exit → St → Option D} (p : Paper) (ax : Int) (nl : Bool) (ss : List Int) (k : List Kt) (x : D) (sz : Nat) (hsz : nl = false → sz = 1) (hnl : nl = true → ss = []) (hlen : ss.length ≤ 9223372036854775807) (hk : ∀ st, get st.tmps 6 = I 1 → zH cfg (lim cfg) 95 F k .ret st = some (I 1)) : ∀ (rest : List Int) (i : Nat), ss.drop i = rest → i ≤ ss.length →
    (rest.all (zz p) = true → zH cfg (lim cfg) 95 F k (.exit 0) ⟨23, [(12, B false), (1, I ax), (3, .lref 0 0 3 0), (9, .sl nl (ss.map I) sz none), (10, I ss.length), (11, I (ss.length : Nat))], [(0, ⟨[zN p], 3, false⟩)], 1, 0⟩ = some x) →
    (rest.all (zz p) = false → x = I 1) →
    EvL cfg (lim cfg) 95 F lp95_2 k ⟨23, [(1, I ax), (3, .lref 0 0 3 0), (9, .sl nl (ss.map I) sz none), (10, I ss.length), (11, I (i : Nat))], [(0, ⟨[zN p], 3, false⟩)], 1, 0⟩ = some x := by
  intro rest
  induction rest with
  | nil =>
    intro i hd hi h h'
    have hi' : i = ss.length := by
      have := List.drop_eq_nil_iff.1 hd
      omega
    subst hi'
    refine zq ?_
    try dsimp only [lp95_2, zM, zy, Tryd.f95]
    simp only [bW, if_true, Nat.reduceEqDiff, if_false]
    repeat' first
      | (intro hb; first | cases hb | skip)
      | ((first | apply z9 | apply zh)
         · rfl
         · simp (disch := assumption) only [go_sem, Nat.reduceEqDiff, Nat.reduceAdd, bP, zj, Nat.reduceLeDiff, Nat.reduceLT, Nat.reduceMul, List.length_append, decide_eq_true_eq, zc, z7, Int.reduceToNat, Int.reduceLE, Int.reduceLT, Int.reduceBNe, Int.reduceBEq, Int.lt_irrefl]
           rfl
         · simp only [go_sem, Nat.reduceLT, Nat.reduceEqDiff]
           rfl
         · rfl
         first
         | (apply zg
            · simp only [z6, z5, Nat.reduceLT, decide_true, cond_true, ins]
              rfl
            · simp only [z6, z5, Nat.reduceLT, decide_true, cond_true, ins]
              rfl)
         | (apply zl
            · simp only [z6, z5, Nat.reduceLT, decide_true, cond_true, ins]
              rfl))
      | ((first | apply ze | apply zf)
         · rfl
         · simp only [z6, z5, Nat.reduceLT, decide_true, cond_true, ins]
           rfl)
      | (apply zd
         · simp only [go_sem, Nat.reduceEqDiff])
      | (apply z8
         · simp only [go_sem, Nat.reduceEqDiff])
      | (apply zk
         · kernel_rfl
         · kernel_rfl)
      | (simp only [bW, if_true, Nat.reduceEqDiff, if_false])
    exact h rfl
  | cons m rest ih =>
    intro i hd hi h h'
    have hlt : i < ss.length := by
      rcases Nat.lt_or_ge i ss.length with h | h
      · exact h
      · rw [List.drop_eq_nil_of_le h] at hd; cases hd
    have hm : ss[i]? = some m := by rw [← List.head?_drop, hd]; rfl
    have hx : (ss.map I)[i]? = some (I m) := by rw [List.getElem?_map, hm]; rfl
    have hnm : nl = false := by
      cases h : nl with
      | false => rfl
      | true => rw [hnl h] at hlt; cases hlt
    have hsz1 := hsz hnm
    clear hsz
    subst hsz1
    have hlt' : (i : Int) < (ss.length : Int) := by omega
    have hw3 : IntKind.i64.wrap ((i : Int) + 1) = ((i + 1 : Nat) : Int) := by rw [wrap_i64 (by omega) (by omega)]; omega
    cases hs : zz p m with
    | true =>
      simp only [List.all_cons, hs, Bool.true_and] at h h'
      refine zq ?_
      try dsimp only [lp95_2, zM, zy, Tryd.f95]
      simp only [bW, if_true, Nat.reduceEqDiff, if_false]
      repeat' first
        | (intro hb; first | cases hb | skip)
        | ((first | apply z9 | apply zh)
           · rfl
           · simp (disch := assumption) only [go_sem, Nat.reduceEqDiff, Nat.reduceAdd, bP, zj, Nat.reduceLeDiff, Nat.reduceLT, Nat.reduceMul, List.length_append, decide_eq_true_eq, zc, z7, Int.reduceToNat, Int.reduceLE, Int.reduceLT, Int.reduceBNe, Int.reduceBEq, hx, hnm, hlt', hw3, t63', hs]
             rfl
           · simp only [go_sem, Nat.reduceLT, Nat.reduceEqDiff]
             rfl
           · rfl
           first
           | (apply zg
              · simp only [z6, z5, Nat.reduceLT, decide_true, cond_true, ins]
                rfl
              · simp only [z6, z5, Nat.reduceLT, decide_true, cond_true, ins]
                rfl)
           | (apply zl
              · simp only [z6, z5, Nat.reduceLT, decide_true, cond_true, ins]
                rfl))
        | ((first | apply ze | apply zf)
           · rfl
           · simp only [z6, z5, Nat.reduceLT, decide_true, cond_true, ins]
             rfl)
        | (apply zd
           · simp only [go_sem, Nat.reduceEqDiff])
        | (apply z8
           · simp only [go_sem, Nat.reduceEqDiff])
        | (apply zk
           · kernel_rfl
           · kernel_rfl)
        | (simp only [bW, if_true, Nat.reduceEqDiff, if_false])
      exact zG (st1 := ⟨23, [(1, I ax), (3, .lref 0 0 3 0), (9, .sl nl (ss.map I) 1 none), (10, I ss.length), (11, I (i + 1 : Nat))], [(0, ⟨[zN p], 3, false⟩)], 1, 0⟩) lk95_2 (by kernel_rfl) (ih (i + 1) (by rw [← List.drop_drop, hd]; rfl) hlt h h')
    | false =>
      rw [h' (by simp [hs])]
      refine zq ?_
      try dsimp only [lp95_2, zM, zy, Tryd.f95]
      simp only [bW, if_true, Nat.reduceEqDiff, if_false]
      repeat' first
        | (intro hb; first | cases hb | skip)
        | ((first | apply z9 | apply zh)
           · rfl
           · simp (disch := assumption) only [go_sem, Nat.reduceEqDiff, Nat.reduceAdd, bP, zj, Nat.reduceLeDiff, Nat.reduceLT, Nat.reduceMul, List.length_append, decide_eq_true_eq, zc, z7, Int.reduceToNat, Int.reduceLE, Int.reduceLT, Int.reduceBNe, Int.reduceBEq, hx, hnm, hlt', hw3, t63', hs]
             rfl
           · simp only [go_sem, Nat.reduceLT, Nat.reduceEqDiff]
             rfl
           · rfl
           first
           | (apply zg
              · simp only [z6, z5, Nat.reduceLT, decide_true, cond_true, ins]
                rfl
              · simp only [z6, z5, Nat.reduceLT, decide_true, cond_true, ins]
                rfl)
           | (apply zl
              · simp only [z6, z5, Nat.reduceLT, decide_true, cond_true, ins]
                rfl))
        | ((first | apply ze | apply zf)
           · rfl
           · simp only [z6, z5, Nat.reduceLT, decide_true, cond_true, ins]
             rfl)
        | (apply zd
           · simp only [go_sem, Nat.reduceEqDiff])
        | (apply z8
           · simp only [go_sem, Nat.reduceEqDiff])
        | (apply zk
           · kernel_rfl
           · kernel_rfl)
        | (simp only [bW, if_true, Nat.reduceEqDiff, if_false])
      exact hk _ rfl
theorem t95 (p : Paper) (ax : Int) (nl : Bool) (ss : List Int) (sz : Nat) (hsz : nl = false → sz = 1) (hnl : nl = true → ss = []) (hlen : ss.length ≤ 9223372036854775807) : (lim cfg).pure 95 [zN p, I ax, .sl nl (ss.map I) sz none] = some (I (namedF p ax ss)) := by
  have hls := len_if (f := I) hnl
  refine zu (zn 95) cfn95 rfl (n := 23) rfl ?_
  generalize hF : finP cfg Tryd.f95 = F
  simp only [bW, if_true, Nat.reduceEqDiff, if_false, zp]
  repeat' first
    | (intro hb; first | cases hb | skip)
    | ((first | apply z9 | apply zh)
       · rfl
       · simp (disch := assumption) only [go_sem, Nat.reduceEqDiff, Nat.reduceAdd, bP, zj, Nat.reduceLeDiff, Nat.reduceLT, Nat.reduceMul, List.length_append, decide_eq_true_eq, zc, z7, Int.reduceToNat, Int.reduceLE, Int.reduceLT, Int.reduceBNe, Int.reduceBEq, hls]
         rfl
       · simp only [go_sem, Nat.reduceLT, Nat.reduceEqDiff]
         rfl
       · rfl
       first
       | (apply zg
          · simp only [z6, z5, Nat.reduceLT, decide_true, cond_true, ins]
            rfl
          · simp only [z6, z5, Nat.reduceLT, decide_true, cond_true, ins]
            rfl)
       | (apply zl
          · simp only [z6, z5, Nat.reduceLT, decide_true, cond_true, ins]
            rfl))
    | ((first | apply ze | apply zf)
       · rfl
       · simp only [z6, z5, Nat.reduceLT, decide_true, cond_true, ins]
         rfl)
    | (apply zd
       · simp only [go_sem, Nat.reduceEqDiff])
    | (apply z8
       · simp only [go_sem, Nat.reduceEqDiff])
    | (apply zk
       · kernel_rfl
       · kernel_rfl)
    | (simp only [bW, if_true, Nat.reduceEqDiff, if_false])
  have hend : ∀ v st, get st.tmps 6 = I v → F .ret st = some (I v) := by
    intro v st hd
    subst hF
    simp only [go_sem, Nat.reduceEqDiff, bP, Nat.reduceAdd, Nat.reduceLeDiff, List.length_map, Tryd.f95, hd]
  refine w_loop (st1 := ⟨23, [(1, I ax), (3, .lref 0 0 3 0), (9, .sl nl (ss.map I) sz none), (10, I ss.length), (11, I (0 : Nat))], [(0, ⟨[zN p], 3, false⟩)], 1, 0⟩) lk95_2 (by kernel_rfl) (L95_2 p ax nl ss _ _ sz hsz hnl hlen (fun st hd => ?_) ss 0 rfl (Nat.zero_le _) (fun ha => ?_) (fun ha => ?_))
  · simp only [bW, if_true, Nat.reduceEqDiff, if_false]
    exact hend 1 st hd
  · cases hax : zR ax with
    | true =>
      rw [show namedF p ax ss = 0 by simp [namedF, ha, hax]]
      simp only [bW, if_true, Nat.reduceEqDiff, if_false]
      repeat' first
        | (intro hb; first | cases hb | skip)
        | ((first | apply z9 | apply zh)
           · rfl
           · simp (disch := assumption) only [go_sem, Nat.reduceEqDiff, Nat.reduceAdd, bP, zj, Nat.reduceLeDiff, Nat.reduceLT, Nat.reduceMul, List.length_append, decide_eq_true_eq, zc, z7, Int.reduceToNat, Int.reduceLE, Int.reduceLT, Int.reduceBNe, Int.reduceBEq, t64', hax]
             rfl
           · simp only [go_sem, Nat.reduceLT, Nat.reduceEqDiff]
             rfl
           · rfl
           first
           | (apply zg
              · simp only [z6, z5, Nat.reduceLT, decide_true, cond_true, ins]
                rfl
              · simp only [z6, z5, Nat.reduceLT, decide_true, cond_true, ins]
                rfl)
           | (apply zl
              · simp only [z6, z5, Nat.reduceLT, decide_true, cond_true, ins]
                rfl))
        | ((first | apply ze | apply zf)
           · rfl
           · simp only [z6, z5, Nat.reduceLT, decide_true, cond_true, ins]
             rfl)
        | (apply zd
           · simp only [go_sem, Nat.reduceEqDiff])
        | (apply z8
           · simp only [go_sem, Nat.reduceEqDiff])
        | (apply zk
           · kernel_rfl
           · kernel_rfl)
        | (simp only [bW, if_true, Nat.reduceEqDiff, if_false])
      exact hend 0 _ rfl
    | false =>
      rw [show namedF p ax ss = 1 by simp [namedF, ha, hax]]
      simp only [bW, if_true, Nat.reduceEqDiff, if_false]
      repeat' first
        | (intro hb; first | cases hb | skip)
        | ((first | apply z9 | apply zh)
           · rfl
           · simp (disch := assumption) only [go_sem, Nat.reduceEqDiff, Nat.reduceAdd, bP, zj, Nat.reduceLeDiff, Nat.reduceLT, Nat.reduceMul, List.length_append, decide_eq_true_eq, zc, z7, Int.reduceToNat, Int.reduceLE, Int.reduceLT, Int.reduceBNe, Int.reduceBEq, t64', hax]
             rfl
           · simp only [go_sem, Nat.reduceLT, Nat.reduceEqDiff]
             rfl
           · rfl
           first
           | (apply zg
              · simp only [z6, z5, Nat.reduceLT, decide_true, cond_true, ins]
                rfl
              · simp only [z6, z5, Nat.reduceLT, decide_true, cond_true, ins]
                rfl)
           | (apply zl
              · simp only [z6, z5, Nat.reduceLT, decide_true, cond_true, ins]
                rfl))
        | ((first | apply ze | apply zf)
           · rfl
           · simp only [z6, z5, Nat.reduceLT, decide_true, cond_true, ins]
             rfl)
        | (apply zd
           · simp only [go_sem, Nat.reduceEqDiff])
        | (apply z8
           · simp only [go_sem, Nat.reduceEqDiff])
        | (apply zk
           · kernel_rfl
           · kernel_rfl)
        | (simp only [bW, if_true, Nat.reduceEqDiff, if_false])
      exact hend 1 _ rfl
  · rw [show namedF p ax ss = 1 by simp [namedF, ha]]
theorem t79' (p : Paper) (hwf : p.wf) (hok : zr p = true) : (lim cfg).pure 79 [zN p] = some (B (possibleF p)) := t79 p hwf hok
theorem t71 (p : Paper) (ax : Int) (nl : Bool) (ss : List Int) (hwf : p.wf) (sz : Nat) (hsz : nl = false → sz = 1) (hnl : nl = true → ss = []) (hlen : ss.length ≤ 9223372036854775807) : (lim cfg).pure 71 [zN p, I ax, .sl nl (ss.map I) sz none] = some (I (knownF p ax ss)) := by
  have h15 := t15 p hwf
  have h95 := t95 p ax nl ss sz hsz hnl hlen
  unfold knownF
  unfold check at h15
  cases hok : zr p with
  | false =>
    rw [hok] at h15
    simp only [Bool.false_eq_true, if_false] at h15 ⊢
    refine zu (zn 71) cfn71 rfl (n := 20) rfl ?_
    simp only [bW, if_true, Nat.reduceEqDiff, if_false, zp]
    repeat' first
      | (intro hb; first | cases hb | skip)
      | ((first | apply z9 | apply zh)
         · rfl
         · simp (disch := assumption) only [go_sem, Nat.reduceEqDiff, Nat.reduceAdd, bP, zj, Nat.reduceLeDiff, Nat.reduceLT, Nat.reduceMul, List.length_append, decide_eq_true_eq, zc, z7, Int.reduceToNat, Int.reduceLE, Int.reduceLT, Int.reduceBNe, Int.reduceBEq, h15]
           rfl
         · simp only [go_sem, Nat.reduceLT, Nat.reduceEqDiff]
           rfl
         · rfl
         first
         | (apply zg
            · simp only [z6, z5, Nat.reduceLT, decide_true, cond_true, ins]
              rfl
            · simp only [z6, z5, Nat.reduceLT, decide_true, cond_true, ins]
              rfl)
         | (apply zl
            · simp only [z6, z5, Nat.reduceLT, decide_true, cond_true, ins]
              rfl))
      | ((first | apply ze | apply zf)
         · rfl
         · simp only [z6, z5, Nat.reduceLT, decide_true, cond_true, ins]
           rfl)
      | (apply zd
         · simp only [go_sem, Nat.reduceEqDiff])
      | (apply z8
         · simp only [go_sem, Nat.reduceEqDiff])
      | (apply zk
         · kernel_rfl
         · kernel_rfl)
      | (simp only [bW, if_true, Nat.reduceEqDiff, if_false])
    all_goals simp only [go_sem, Nat.reduceEqDiff, bP, Nat.reduceAdd, Nat.reduceLeDiff, List.length_map, Tryd.f71]
    all_goals first | done | rfl | (simp_all []; done) | trace_state
  | true =>
    rw [hok] at h15
    simp only [if_true] at h15 ⊢
    have h79 := t79' p hwf hok
    cases hp : possibleF p with
    | false =>
      rw [hp] at h79
      simp only [Bool.false_eq_true, if_false]
      refine zu (zn 71) cfn71 rfl (n := 20) rfl ?_
      simp only [bW, if_true, Nat.reduceEqDiff, if_false, zp]
      repeat' first
        | (intro hb; first | cases hb | skip)
        | ((first | apply z9 | apply zh)
           · rfl
           · simp (disch := assumption) only [go_sem, Nat.reduceEqDiff, Nat.reduceAdd, bP, zj, Nat.reduceLeDiff, Nat.reduceLT, Nat.reduceMul, List.length_append, decide_eq_true_eq, zc, z7, Int.reduceToNat, Int.reduceLE, Int.reduceLT, Int.reduceBNe, Int.reduceBEq, h15, h79]
             rfl
           · simp only [go_sem, Nat.reduceLT, Nat.reduceEqDiff]
             rfl
           · rfl
           first
           | (apply zg
              · simp only [z6, z5, Nat.reduceLT, decide_true, cond_true, ins]
                rfl
              · simp only [z6, z5, Nat.reduceLT, decide_true, cond_true, ins]
                rfl)
           | (apply zl
              · simp only [z6, z5, Nat.reduceLT, decide_true, cond_true, ins]
                rfl))
        | ((first | apply ze | apply zf)
           · rfl
           · simp only [z6, z5, Nat.reduceLT, decide_true, cond_true, ins]
             rfl)
        | (apply zd
           · simp only [go_sem, Nat.reduceEqDiff])
        | (apply z8
           · simp only [go_sem, Nat.reduceEqDiff])
        | (apply zk
           · kernel_rfl
           · kernel_rfl)
        | (simp only [bW, if_true, Nat.reduceEqDiff, if_false])
      all_goals simp only [go_sem, Nat.reduceEqDiff, bP, Nat.reduceAdd, Nat.reduceLeDiff, List.length_map, Tryd.f71]
      all_goals first | done | rfl | (simp_all []; done) | trace_state
    | true =>
      rw [hp] at h79
      simp only [if_true]
      refine zu (zn 71) cfn71 rfl (n := 20) rfl ?_
      simp only [bW, if_true, Nat.reduceEqDiff, if_false, zp]
      repeat' first
        | (intro hb; first | cases hb | skip)
        | ((first | apply z9 | apply zh)
           · rfl
           · simp (disch := assumption) only [go_sem, Nat.reduceEqDiff, Nat.reduceAdd, bP, zj, Nat.reduceLeDiff, Nat.reduceLT, Nat.reduceMul, List.length_append, decide_eq_true_eq, zc, z7, Int.reduceToNat, Int.reduceLE, Int.reduceLT, Int.reduceBNe, Int.reduceBEq, h15, h79, h95]
             rfl
           · simp only [go_sem, Nat.reduceLT, Nat.reduceEqDiff]
             rfl
           · rfl
           first
           | (apply zg
              · simp only [z6, z5, Nat.reduceLT, decide_true, cond_true, ins]
                rfl
              · simp only [z6, z5, Nat.reduceLT, decide_true, cond_true, ins]
                rfl)
           | (apply zl
              · simp only [z6, z5, Nat.reduceLT, decide_true, cond_true, ins]
                rfl))
        | ((first | apply ze | apply zf)
           · rfl
           · simp only [z6, z5, Nat.reduceLT, decide_true, cond_true, ins]
             rfl)
        | (apply zd
           · simp only [go_sem, Nat.reduceEqDiff])
        | (apply z8
           · simp only [go_sem, Nat.reduceEqDiff])
        | (apply zk
           · kernel_rfl
           · kernel_rfl)
        | (simp only [bW, if_true, Nat.reduceEqDiff, if_false])
      all_goals simp only [go_sem, Nat.reduceEqDiff, bP, Nat.reduceAdd, Nat.reduceLeDiff, List.length_map, Tryd.f71]
      all_goals first | done | rfl | (simp_all []; done) | trace_state

def downO (p : Paper) (s ax : Int) : Option Chn := ((zK (zx p ax) (1 + s).toNat 4)[0]?).join
def upO (p : Paper) (s ax : Int) : Option Chn := ((zK (zx p ax) 0 4)[(1 + s).toNat]?).join
def chnOr (o : Option Chn) : Chn := match o with | some c => c | none => ⟨⟨1, 1⟩, []⟩
def downF (p : Paper) (s ax : Int) : Chn := chnOr (downO p s ax)
def upF (p : Paper) (s ax : Int) : Chn := chnOr (upO p s ax)

/-! ### what an edge leads to is there -/
def isS (l : Net) (j : Nat) : Prop := ∃ c, l[j]? = some (some c)
theorem isS_put {l : Net} {j i : Nat} {c : Chn} (h : isS l j) : isS (putE l i c) j := by
  obtain ⟨d, hd⟩ := h
  have key : ∃ c', (l.set i (some c))[j]? = some (some c') := by
    by_cases e : i = j
    · subst e; exact ⟨c, by rw [List.getElem?_set]; simp; rw [List.getElem?_eq_some_iff] at hd; exact hd.1⟩
    · exact ⟨d, by rw [List.getElem?_set_ne e]; exact hd⟩
  unfold putE
  split
  · split
    · exact key
    · exact ⟨d, hd⟩
  · exact key
theorem isS_putE {l : Net} {i : Nat} {c : Chn} (h : i < l.length) : isS (putE l i c) i := by
  have key : ∃ c', (l.set i (some c))[i]? = some (some c') := ⟨c, by rw [List.getElem?_set]; simp [h]⟩
  unfold putE
  split
  · rename_i b hb
    split
    · exact key
    · exact ⟨b, hb⟩
  · exact key
theorem isS_step {now l : Net} {e : Edge} {j : Nat} (h : isS l j) : isS (stepE now l e) j := by
  unfold stepE
  split
  · exact isS_put h
  · exact h
theorem isS_fold {now : Net} {j : Nat} : ∀ {es : List Edge} {l : Net}, isS l j → isS (es.foldl (stepE now) l) j
  | [], _, h => h
  | e :: es, l, h => isS_fold (es := es) (isS_step h)
theorem len_put {l : Net} {i : Nat} {c : Chn} : (putE l i c).length = l.length := by
  unfold putE; split <;> (try split) <;> simp
theorem len_step {now l : Net} {e : Edge} : (stepE now l e).length = l.length := by
  unfold stepE; split
  · exact len_put
  · rfl
theorem isS_of_edge {now : Net} {e : Edge} : ∀ {es : List Edge} {l : Net}, e ∈ es → isS now e.src.toNat → e.dst.toNat < l.length → isS (es.foldl (stepE now) l) e.dst.toNat
  | [], _, h, _, _ => by cases h
  | e' :: es, l, h, hs, hl => by
    rcases List.mem_cons.1 h with rfl | h
    · refine isS_fold (es := es) ?_
      obtain ⟨c, hc⟩ := hs
      unfold stepE; rw [hc]
      exact isS_putE hl
    · exact isS_of_edge (es := es) h hs (by rw [len_step]; exact hl)
theorem isS_merge {j : Nat} : ∀ {l : List (Option Chn)} {i : Nat} {out : Net}, isS out j → isS (mergeL l i out) j
  | [], _, _, h => h
  | none :: r, i, out, h => isS_merge (l := r) h
  | some c :: r, i, out, h => isS_merge (l := r) (isS_put h)
theorem isS_mergeL {j : Nat} {c : Chn} : ∀ {l : List (Option Chn)} {i : Nat} {out : Net}, l[j]? = some (some c) → i + j < out.length → isS (mergeL l i out) (i + j)
  | [], _, _, h, _ => by simp at h
  | o :: r, i, out, h, hl => by
    cases j with
    | zero =>
      simp at h; subst h
      exact isS_merge (l := r) (isS_putE hl)
    | succ j =>
      simp at h
      cases o with
      | none => simp only [mergeL]; rw [show i + (j + 1) = (i + 1) + j by omega]; exact isS_mergeL (l := r) h (by omega)
      | some d => simp only [mergeL]; rw [show i + (j + 1) = (i + 1) + j by omega]; exact isS_mergeL (l := r) h (by rw [len_put]; omega)
theorem isS_rounds {es : List Edge} {j : Nat} : ∀ {k : Nat} {now out : Net}, isS out j → isS (roundsN es k now out) j
  | 0, _, _, h => h
  | k + 1, now, out, h => isS_rounds (k := k) (isS_merge h)
theorem chains_edge {es : List Edge} {e : Edge} {k : Nat} (he : e ∈ es) (hb : edgeB e) : isS (zK es e.src.toNat (k + 1)) e.dst.toNat := by
  unfold zK
  simp only [roundsN]
  refine isS_rounds ?_
  obtain ⟨b1, b2, b3, b4, _⟩ := hb
  have hs5 : e.src.toNat < zT.length := by show e.src.toNat < 5; omega
  have hd5 : e.dst.toNat < zT.length := by show e.dst.toNat < 5; omega
  obtain ⟨c, hc⟩ : isS (es.foldl (stepE (zT.set e.src.toNat (some ⟨⟨1, 1⟩, []⟩))) zT) e.dst.toNat :=
    isS_of_edge he ⟨_, List.getElem?_set_self hs5⟩ hd5
  have := isS_mergeL (i := 0) (out := zT) hc (by rw [Nat.zero_add]; exact hd5)
  rwa [Nat.zero_add] at this
theorem sheet_edge {p : Paper} {s : Int} (ax : Int) (hs : zz p s = true) : (⟨1 + s, 0, ⟨2, 1⟩, ⟨false, -1 - s, false⟩⟩ : Edge) ∈ zx p ax ∧ (⟨0, 1 + s, ⟨2, 1⟩, ⟨false, -1 - s, true⟩⟩ : Edge) ∈ zx p ax := by
  simp [zz] at hs
  obtain ⟨n, rfl⟩ := Int.eq_ofNat_of_zero_le hs.1
  have hmem : n ∈ List.range' 0 p.sheets.toNat := by rw [List.mem_range'_1]; omega
  simp only [zx, List.mem_append, List.mem_flatMap]
  exact ⟨.inl (.inl ⟨n, hmem, by simp [sheetE]⟩), .inl (.inl ⟨n, hmem, by simp [sheetE]⟩)⟩
theorem downO_some {p : Paper} {s : Int} (ax : Int) (hok : zr p = true) (hs : zz p s = true) : downO p s ax = some (downF p s ax) ∧ (zK (zx p ax) (1 + s).toNat 4)[0]? = some (some (downF p s ax)) := by
  obtain ⟨h1, h2⟩ := sheet_edge ax hs
  obtain ⟨c, hc⟩ := chains_edge (k := 3) h1 ((edgesB hok ax).1 _ h1)
  have hc' : (zK (zx p ax) (1 + s).toNat 4)[0]? = some (some c) := hc
  have e : downO p s ax = some c := by unfold downO; rw [hc']; rfl
  have e' : downF p s ax = c := by unfold downF; rw [e]; rfl
  rw [e', e]; exact ⟨rfl, hc'⟩
theorem upO_some {p : Paper} {s : Int} (ax : Int) (hok : zr p = true) (hs : zz p s = true) : upO p s ax = some (upF p s ax) ∧ (zK (zx p ax) 0 4)[(1 + s).toNat]? = some (some (upF p s ax)) := by
  obtain ⟨h1, h2⟩ := sheet_edge ax hs
  obtain ⟨c, hc⟩ := chains_edge (k := 3) h2 ((edgesB hok ax).1 _ h2)
  have hc' : (zK (zx p ax) 0 4)[(1 + s).toNat]? = some (some c) := hc
  have e : upO p s ax = some c := by unfold upO; rw [hc']; rfl
  have e' : upF p s ax = c := by unfold upF; rw [e]; rfl
  rw [e', e]; exact ⟨rfl, hc'⟩
theorem downF_qB {p : Paper} {s : Int} (ax : Int) (hok : zr p = true) (hs : zz p s = true) : qB 32000000000000000 5 (downF p s ax) :=
  (chainsF_netB (edgesB hok ax).1 (by omega)).2 _ (List.mem_of_getElem? (downO_some ax hok hs).2)
theorem upF_qB {p : Paper} {s : Int} (ax : Int) (hok : zr p = true) (hs : zz p s = true) : qB 32000000000000000 5 (upF p s ax) :=
  (chainsF_netB (edgesB hok ax).1 (by omega)).2 _ (List.mem_of_getElem? (upO_some ax hok hs).2)

theorem t100 (p : Paper) (s ax : Int) (hwf : p.wf) (hok : zr p = true) (hs : zz p s = true) : (lim cfg).pure 100 [zN p, I s, I ax] = some (zo (some (downF p s ax))) := by
  have h68 := t68 p ax hwf hok
  obtain ⟨o1, o2, _⟩ := zD hok
  obtain ⟨hes, hlen⟩ := edgesB hok ax
  have hc := (downO_some ax hok hs).2
  simp [zz] at hs
  obtain ⟨N, hN⟩ := Int.eq_ofNat_of_zero_le (show 0 ≤ 1 + s by omega)
  have hw : IntKind.i64.wrap (1 + s) = (N : Int) := by rw [wrap_i64 (by omega) (by omega), hN]
  have hN' : (1 + s).toNat = N := by rw [hN]; rfl
  rw [hN'] at hc
  have h72 := t72 (zx p ax) N 4 hes hlen (by omega) (by omega)
  have hnet : ((zK (zx p ax) N 4).map zo)[0]? = some (zo (some (downF p s ax))) := by rw [List.getElem?_map, hc]; rfl
  have hlt5 : (N < 5) = True := by simp; omega
  simp only [Int.cast_ofNat_Int] at h72
  refine zu (zn 100) cfn100 rfl (n := 14) rfl ?_
  generalize hF : finP cfg Tryd.f100 = F
  simp only [bW, if_true, Nat.reduceEqDiff, if_false, zp]
  repeat' first
    | (intro hb; first | cases hb | skip)
    | ((first | apply z9 | apply zh)
       · rfl
       · simp (disch := assumption) only [go_sem, Nat.reduceEqDiff, Nat.reduceAdd, bP, zj, Nat.reduceLeDiff, Nat.reduceLT, Nat.reduceMul, List.length_append, decide_eq_true_eq, zc, z7, Int.reduceToNat, Int.reduceLE, Int.reduceLT, Int.reduceBNe, Int.reduceBEq, h68, hw, h72, hnet, encOC_one, hlt5, show (0 : Nat) < 5 from by decide]
         rfl
       · simp only [go_sem, Nat.reduceLT, Nat.reduceEqDiff]
         rfl
       · rfl
       first
       | (apply zg
          · simp only [z6, z5, Nat.reduceLT, decide_true, cond_true, ins]
            rfl
          · simp only [z6, z5, Nat.reduceLT, decide_true, cond_true, ins]
            rfl)
       | (apply zl
          · simp only [z6, z5, Nat.reduceLT, decide_true, cond_true, ins]
            rfl))
    | ((first | apply ze | apply zf)
       · rfl
       · simp only [z6, z5, Nat.reduceLT, decide_true, cond_true, ins]
         rfl)
    | (apply zd
       · simp only [go_sem, Nat.reduceEqDiff])
    | (apply z8
       · simp only [go_sem, Nat.reduceEqDiff])
    | (apply zk
       · kernel_rfl
       · kernel_rfl)
    | (simp only [bW, if_true, Nat.reduceEqDiff, if_false])
  subst hF
  simp only [go_sem, Nat.reduceEqDiff, bP, Nat.reduceAdd, Nat.reduceLeDiff, List.length_map, Tryd.f100, snap_enc]

theorem t101 (p : Paper) (s ax : Int) (hwf : p.wf) (hok : zr p = true) (hs : zz p s = true) : (lim cfg).pure 101 [zN p, I s, I ax] = some (zo (some (upF p s ax))) := by
  have h68 := t68 p ax hwf hok
  obtain ⟨o1, o2, _⟩ := zD hok
  obtain ⟨hes, hlen⟩ := edgesB hok ax
  have hc := (upO_some ax hok hs).2
  simp [zz] at hs
  obtain ⟨N, hN⟩ := Int.eq_ofNat_of_zero_le (show 0 ≤ 1 + s by omega)
  have hw : IntKind.i64.wrap (1 + s) = (N : Int) := by rw [wrap_i64 (by omega) (by omega), hN]
  have hN' : (1 + s).toNat = N := by rw [hN]; rfl
  rw [hN'] at hc
  have h72 := t72 (zx p ax) 0 4 hes hlen (by omega) (by omega)
  have hnet : ((zK (zx p ax) 0 4).map zo)[N]? = some (zo (some (upF p s ax))) := by rw [List.getElem?_map, hc]; rfl
  have hlt5 : (N < 5) = True := by simp; omega
  simp only [Int.cast_ofNat_Int] at h72
  refine zu (zn 101) cfn101 rfl (n := 14) rfl ?_
  generalize hF : finP cfg Tryd.f101 = F
  simp only [bW, if_true, Nat.reduceEqDiff, if_false, zp]
  repeat' first
    | (intro hb; first | cases hb | skip)
    | ((first | apply z9 | apply zh)
       · rfl
       · simp (disch := assumption) only [go_sem, Nat.reduceEqDiff, Nat.reduceAdd, bP, zj, Nat.reduceLeDiff, Nat.reduceLT, Nat.reduceMul, List.length_append, decide_eq_true_eq, zc, z7, Int.reduceToNat, Int.reduceLE, Int.reduceLT, Int.reduceBNe, Int.reduceBEq, h68, hw, h72, hnet, encOC_one, hlt5, show (0 : Nat) < 5 from by decide]
         rfl
       · simp only [go_sem, Nat.reduceLT, Nat.reduceEqDiff]
         rfl
       · rfl
       first
       | (apply zg
          · simp only [z6, z5, Nat.reduceLT, decide_true, cond_true, ins]
            rfl
          · simp only [z6, z5, Nat.reduceLT, decide_true, cond_true, ins]
            rfl)
       | (apply zl
          · simp only [z6, z5, Nat.reduceLT, decide_true, cond_true, ins]
            rfl))
    | ((first | apply ze | apply zf)
       · rfl
       · simp only [z6, z5, Nat.reduceLT, decide_true, cond_true, ins]
         rfl)
    | (apply zd
       · simp only [go_sem, Nat.reduceEqDiff])
    | (apply z8
       · simp only [go_sem, Nat.reduceEqDiff])
    | (apply zk
       · kernel_rfl
       · kernel_rfl)
    | (simp only [bW, if_true, Nat.reduceEqDiff, if_false])
  subst hF
  simp only [go_sem, Nat.reduceEqDiff, bP, Nat.reduceAdd, Nat.reduceLeDiff, List.length_map, Tryd.f101, snap_enc]

end Go.VS
namespace Go.VS
open Go Go.Proofs
set_option maxHeartbeats 0
set_option linter.unusedSimpArgs false

structure F4 where
  xn : Int
  xd : Int
  yn : Int
  yd : Int
def encF (f : F4) : D := .agg [I f.xn, I f.xd, I f.yn, I f.yd]
theorem okF : EncOK 4 encF := ⟨fun _ _ _ => rfl, fun _ _ => rfl, fun _ _ _ => rfl, fun _ => ⟨rfl, rfl⟩⟩
theorem known_zero {p : Paper} {ax : Int} {ss : List Int} : knownF p ax ss = 0 ↔ zr p = true ∧ possibleF p = true ∧ ss.all (zz p) = true ∧ zR ax = true := by
  unfold knownF namedF
  cases zr p <;> cases possibleF p <;> cases ss.all (zz p) <;> cases zR ax <;> simp
def loF (p : Paper) (s ax : Int) : Ratio := ⟨(upF p s ax).q.d, (upF p s ax).q.n⟩
def hiF (p : Paper) (s ax : Int) : Ratio := (downF p s ax).q

theorem t73 (p : Paper) (s ax : Int) (hwf : p.wf) (hok : zr p = true) (hs : zz p s = true) : (lim cfg).pure 73 [zN p, I s, I ax] = some (.agg [I (loF p s ax).n, I (loF p s ax).d, I (hiF p s ax).n, I (hiF p s ax).d]) := by
  have h100 := t100 p s ax hwf hok hs
  have h101 := t101 p s ax hwf hok hs
  simp only [zo] at h100 h101
  refine zu (zn 73) cfn73 rfl (n := 23) rfl ?_
  simp only [bW, if_true, Nat.reduceEqDiff, if_false, zp]
  repeat' first
    | (intro hb; first | cases hb | skip)
    | ((first | apply z9 | apply zh)
       · rfl
       · simp (disch := assumption) only [go_sem, Nat.reduceEqDiff, Nat.reduceAdd, bP, zj, Nat.reduceLeDiff, Nat.reduceLT, Nat.reduceMul, List.length_append, decide_eq_true_eq, zc, z7, Int.reduceToNat, Int.reduceLE, Int.reduceLT, Int.reduceBNe, Int.reduceBEq, h100, h101, t97, whyD_one, zo]
         rfl
       · simp only [go_sem, Nat.reduceLT, Nat.reduceEqDiff]
         rfl
       · rfl
       first
       | (apply zg
          · simp only [z6, z5, Nat.reduceLT, decide_true, cond_true, ins]
            rfl
          · simp only [z6, z5, Nat.reduceLT, decide_true, cond_true, ins]
            rfl)
       | (apply zl
          · simp only [z6, z5, Nat.reduceLT, decide_true, cond_true, ins]
            rfl))
    | ((first | apply ze | apply zf)
       · rfl
       · simp only [z6, z5, Nat.reduceLT, decide_true, cond_true, ins]
         rfl)
    | (apply zd
       · simp only [go_sem, Nat.reduceEqDiff])
    | (apply z8
       · simp only [go_sem, Nat.reduceEqDiff])
    | (apply zk
       · kernel_rfl
       · kernel_rfl)
    | (simp only [bW, if_true, Nat.reduceEqDiff, if_false])
  all_goals try simp only [go_sem, Nat.reduceEqDiff, bP, Nat.reduceAdd, Nat.reduceLeDiff, List.length_map, Tryd.f73]
  all_goals first | done | rfl | (simp_all []; done) | trace_state

theorem t20 (p : Paper) (s ax : Int) (hwf : p.wf) : (lim cfg).pure 20 [zN p, I s, I ax] = some (if knownF p ax [s] = 0 then .tup [.agg [I (loF p s ax).n, I (loF p s ax).d], .agg [I (hiF p s ax).n, I (hiF p s ax).d], I 0] else .tup [.agg [I 0, I 0], .agg [I 0, I 0], I (knownF p ax [s])]) := by
  have h71 := t71 p ax false [s] hwf 1 (by simp) (by simp) (by simp)
  simp only [List.map_cons, List.map_nil] at h71
  by_cases hk : knownF p ax [s] = 0
  · rw [if_pos hk]
    rw [hk] at h71
    obtain ⟨hok, hp, hs, hax⟩ := known_zero.1 hk
    simp at hs
    have h73 := t73 p s ax hwf hok hs
    refine zu (zn 20) cfn20 rfl (n := 29) rfl ?_
    simp only [bW, if_true, Nat.reduceEqDiff, if_false, zp]
    repeat' first
      | (intro hb; first | cases hb | skip)
      | ((first | apply z9 | apply zh)
         · rfl
         · simp (disch := assumption) only [go_sem, Nat.reduceEqDiff, Nat.reduceAdd, bP, zj, Nat.reduceLeDiff, Nat.reduceLT, Nat.reduceMul, List.length_append, decide_eq_true_eq, zc, z7, Int.reduceToNat, Int.reduceLE, Int.reduceLT, Int.reduceBNe, Int.reduceBEq, h71, h73]
           rfl
         · simp only [go_sem, Nat.reduceLT, Nat.reduceEqDiff]
           rfl
         · rfl
         first
         | (apply zg
            · simp only [z6, z5, Nat.reduceLT, decide_true, cond_true, ins]
              rfl
            · simp only [z6, z5, Nat.reduceLT, decide_true, cond_true, ins]
              rfl)
         | (apply zl
            · simp only [z6, z5, Nat.reduceLT, decide_true, cond_true, ins]
              rfl))
      | ((first | apply ze | apply zf)
         · rfl
         · simp only [z6, z5, Nat.reduceLT, decide_true, cond_true, ins]
           rfl)
      | (apply zd
         · simp only [go_sem, Nat.reduceEqDiff])
      | (apply z8
         · simp only [go_sem, Nat.reduceEqDiff])
      | (apply zk
         · kernel_rfl
         · kernel_rfl)
      | (simp only [bW, if_true, Nat.reduceEqDiff, if_false])
    all_goals try simp only [go_sem, Nat.reduceEqDiff, bP, Nat.reduceAdd, Nat.reduceLeDiff, List.length_map, Tryd.f20]
    all_goals first | done | rfl | (simp_all []; done) | trace_state
  · rw [if_neg hk]
    have hne : (knownF p ax [s] != 0) = true := by simp [hk]
    refine zu (zn 20) cfn20 rfl (n := 29) rfl ?_
    simp only [bW, if_true, Nat.reduceEqDiff, if_false, zp]
    repeat' first
      | (intro hb; first | cases hb | skip)
      | ((first | apply z9 | apply zh)
         · rfl
         · simp (disch := assumption) only [go_sem, Nat.reduceEqDiff, Nat.reduceAdd, bP, zj, Nat.reduceLeDiff, Nat.reduceLT, Nat.reduceMul, List.length_append, decide_eq_true_eq, zc, z7, Int.reduceToNat, Int.reduceLE, Int.reduceLT, Int.reduceBNe, Int.reduceBEq, h71, hne]
           rfl
         · simp only [go_sem, Nat.reduceLT, Nat.reduceEqDiff]
           rfl
         · rfl
         first
         | (apply zg
            · simp only [z6, z5, Nat.reduceLT, decide_true, cond_true, ins]
              rfl
            · simp only [z6, z5, Nat.reduceLT, decide_true, cond_true, ins]
              rfl)
         | (apply zl
            · simp only [z6, z5, Nat.reduceLT, decide_true, cond_true, ins]
              rfl))
      | ((first | apply ze | apply zf)
         · rfl
         · simp only [z6, z5, Nat.reduceLT, decide_true, cond_true, ins]
           rfl)
      | (apply zd
         · simp only [go_sem, Nat.reduceEqDiff])
      | (apply z8
         · simp only [go_sem, Nat.reduceEqDiff])
      | (apply zk
         · kernel_rfl
         · kernel_rfl)
      | (simp only [bW, if_true, Nat.reduceEqDiff, if_false])
    all_goals try simp only [go_sem, Nat.reduceEqDiff, bP, Nat.reduceAdd, Nat.reduceLeDiff, List.length_map, Tryd.f20]
    all_goals first | done | rfl | (simp_all []; done) | trace_state

theorem isS_fold2 {es : List Edge} {now : Net} {e : Edge} (he : e ∈ es) (hb : edgeB e) (hs : isS now e.src.toNat) : isS (es.foldl (stepE now) zT) e.dst.toNat :=
  isS_of_edge he hs (by show e.dst.toNat < 5; obtain ⟨b1, b2, b3, b4, _⟩ := hb; omega)
theorem merge_len : ∀ {l : List (Option Chn)} {i : Nat} {out : Net}, (mergeL l i out).length = out.length
  | [], _, _ => rfl
  | none :: r, i, out => merge_len (l := r)
  | some c :: r, i, out => by simp only [mergeL]; rw [merge_len (l := r), len_put]
theorem chains_edge2 {es : List Edge} {e e' : Edge} {k : Nat} (he : e ∈ es) (hb : edgeB e) (he' : e' ∈ es) (hb' : edgeB e') (h : e'.src = e.dst) : isS (zK es e.src.toNat (k + 2)) e'.dst.toNat := by
  unfold zK
  simp only [roundsN]
  refine isS_rounds ?_
  have hs5 : e.src.toNat < zT.length := by obtain ⟨b1, b2, b3, b4, _⟩ := hb; show e.src.toNat < 5; omega
  have hd5 : e'.dst.toNat < zT.length := by obtain ⟨b1, b2, b3, b4, _⟩ := hb'; show e'.dst.toNat < 5; omega
  have h1 := isS_fold2 he hb (now := zT.set e.src.toNat (some ⟨⟨1, 1⟩, []⟩)) ⟨_, List.getElem?_set_self hs5⟩
  rw [← h] at h1
  obtain ⟨c, hc⟩ := isS_fold2 he' hb' h1
  have := isS_mergeL (i := 0) (out := mergeL (es.foldl (stepE (zT.set e.src.toNat (some ⟨⟨1, 1⟩, []⟩))) zT) 0 zT) hc (by rw [Nat.zero_add, merge_len]; exact hd5)
  rwa [Nat.zero_add] at this
def betwF (p : Paper) (a b ax : Int) : Ratio := if a = b then one1 else (chnOr (((zK (zx p ax) (1 + a).toNat 4)[(1 + b).toNat]?).join)).q
theorem betw_some {p : Paper} {a b : Int} (ax : Int) (hok : zr p = true) (ha : zz p a = true) (hb : zz p b = true) (hab : a ≠ b) : ∃ c, (zK (zx p ax) (1 + a).toNat 4)[(1 + b).toNat]? = some (some c) ∧ betwF p a b ax = c.q ∧ qB 32000000000000000 5 c := by
  obtain ⟨h1, _⟩ := sheet_edge ax ha
  obtain ⟨_, h2⟩ := sheet_edge ax hb
  have hes := (edgesB hok ax).1
  obtain ⟨c, hc⟩ := chains_edge2 (k := 2) h1 (hes _ h1) h2 (hes _ h2) rfl
  have hc' : (zK (zx p ax) (1 + a).toNat 4)[(1 + b).toNat]? = some (some c) := hc
  refine ⟨c, hc', ?_, (chainsF_netB hes (by omega)).2 _ (List.mem_of_getElem? hc')⟩
  unfold betwF
  rw [if_neg hab, hc']; rfl
theorem t19 (p : Paper) (a b ax : Int) (hwf : p.wf) : (lim cfg).pure 19 [zN p, I a, I b, I ax] = some (if knownF p ax [a, b] = 0 then .tup [.agg [I (betwF p a b ax).n, I (betwF p a b ax).d], I 0] else .tup [.agg [I 0, I 0], I (knownF p ax [a, b])]) := by
  have h71 := t71 p ax false [a, b] hwf 1 (by simp) (by simp) (by simp)
  simp only [List.map_cons, List.map_nil] at h71
  by_cases hk : knownF p ax [a, b] = 0
  · rw [if_pos hk]
    rw [hk] at h71
    obtain ⟨hok, hp, hs, hax⟩ := known_zero.1 hk
    simp at hs
    obtain ⟨o1, o2, _⟩ := zD hok
    by_cases hab : a = b
    · have heq : (a == b) = true := by simp [hab]
      rw [show betwF p a b ax = one1 by simp [betwF, hab]]
      refine zu (zn 19) cfn19 rfl (n := 37) rfl ?_
      simp only [bW, if_true, Nat.reduceEqDiff, if_false, zp]
      repeat' first
        | (intro hb; first | cases hb | skip)
        | ((first | apply z9 | apply zh)
           · rfl
           · simp (disch := assumption) only [go_sem, Nat.reduceEqDiff, Nat.reduceAdd, bP, zj, Nat.reduceLeDiff, Nat.reduceLT, Nat.reduceMul, List.length_append, decide_eq_true_eq, zc, z7, Int.reduceToNat, Int.reduceLE, Int.reduceLT, Int.reduceBNe, Int.reduceBEq, h71, heq, cfg_glob0]
             rfl
           · simp only [go_sem, Nat.reduceLT, Nat.reduceEqDiff]
             rfl
           · rfl
           first
           | (apply zg
              · simp only [z6, z5, Nat.reduceLT, decide_true, cond_true, ins]
                rfl
              · simp only [z6, z5, Nat.reduceLT, decide_true, cond_true, ins]
                rfl)
           | (apply zl
              · simp only [z6, z5, Nat.reduceLT, decide_true, cond_true, ins]
                rfl))
        | ((first | apply ze | apply zf)
           · rfl
           · simp only [z6, z5, Nat.reduceLT, decide_true, cond_true, ins]
             rfl)
        | (apply zd
           · simp only [go_sem, Nat.reduceEqDiff])
        | (apply z8
           · simp only [go_sem, Nat.reduceEqDiff])
        | (apply zk
           · kernel_rfl
           · kernel_rfl)
        | (simp only [bW, if_true, Nat.reduceEqDiff, if_false])
      all_goals try simp only [go_sem, Nat.reduceEqDiff, bP, Nat.reduceAdd, Nat.reduceLeDiff, List.length_map, Tryd.f19]
      all_goals first | done | rfl | (simp_all []; done) | trace_state
    · have heq : (a == b) = false := by simp [hab]
      obtain ⟨c, hc, hcq, _⟩ := betw_some ax hok hs.1 hs.2 hab
      rw [hcq]
      have h68 := t68 p ax hwf hok
      obtain ⟨hes, hlen⟩ := edgesB hok ax
      have hsa := hs.1
      have hsb := hs.2
      simp [zz] at hsa hsb
      obtain ⟨A, hA⟩ := Int.eq_ofNat_of_zero_le (show 0 ≤ 1 + a by omega)
      obtain ⟨N, hN⟩ := Int.eq_ofNat_of_zero_le (show 0 ≤ 1 + b by omega)
      have hwa : IntKind.i64.wrap (1 + a) = (A : Int) := by rw [wrap_i64 (by omega) (by omega), hA]
      have hwb : IntKind.i64.wrap (1 + b) = (N : Int) := by rw [wrap_i64 (by omega) (by omega), hN]
      have hA' : (1 + a).toNat = A := by rw [hA]; rfl
      have hN' : (1 + b).toNat = N := by rw [hN]; rfl
      rw [hA', hN'] at hc
      have h72 := t72 (zx p ax) A 4 hes hlen (by omega) (by omega)
      have hnet : ((zK (zx p ax) A 4).map zo)[N]? = some (zo (some c)) := by rw [List.getElem?_map, hc]; rfl
      have hlt5 : (N < 5) = True := by simp; omega
      simp only [Int.cast_ofNat_Int] at h72
      refine zu (zn 19) cfn19 rfl (n := 37) rfl ?_
      simp only [bW, if_true, Nat.reduceEqDiff, if_false, zp]
      repeat' first
        | (intro hb; first | cases hb | skip)
        | ((first | apply z9 | apply zh)
           · rfl
           · simp (disch := assumption) only [go_sem, Nat.reduceEqDiff, Nat.reduceAdd, bP, zj, Nat.reduceLeDiff, Nat.reduceLT, Nat.reduceMul, List.length_append, decide_eq_true_eq, zc, z7, Int.reduceToNat, Int.reduceLE, Int.reduceLT, Int.reduceBNe, Int.reduceBEq, h71, heq, h68, hwa, hwb, h72, hnet, zo, whyD_one, encOC_one, hlt5]
             rfl
           · simp only [go_sem, Nat.reduceLT, Nat.reduceEqDiff]
             rfl
           · rfl
           first
           | (apply zg
              · simp only [z6, z5, Nat.reduceLT, decide_true, cond_true, ins]
                rfl
              · simp only [z6, z5, Nat.reduceLT, decide_true, cond_true, ins]
                rfl)
           | (apply zl
              · simp only [z6, z5, Nat.reduceLT, decide_true, cond_true, ins]
                rfl))
        | ((first | apply ze | apply zf)
           · rfl
           · simp only [z6, z5, Nat.reduceLT, decide_true, cond_true, ins]
             rfl)
        | (apply zd
           · simp only [go_sem, Nat.reduceEqDiff])
        | (apply z8
           · simp only [go_sem, Nat.reduceEqDiff])
        | (apply zk
           · kernel_rfl
           · kernel_rfl)
        | (simp only [bW, if_true, Nat.reduceEqDiff, if_false])
      all_goals try simp only [go_sem, Nat.reduceEqDiff, bP, Nat.reduceAdd, Nat.reduceLeDiff, List.length_map, Tryd.f19]
      all_goals first | done | rfl | (simp_all []; done) | trace_state
  · rw [if_neg hk]
    have hne : (knownF p ax [a, b] != 0) = true := by simp [hk]
    refine zu (zn 19) cfn19 rfl (n := 37) rfl ?_
    simp only [bW, if_true, Nat.reduceEqDiff, if_false, zp]
    repeat' first
      | (intro hb; first | cases hb | skip)
      | ((first | apply z9 | apply zh)
         · rfl
         · simp (disch := assumption) only [go_sem, Nat.reduceEqDiff, Nat.reduceAdd, bP, zj, Nat.reduceLeDiff, Nat.reduceLT, Nat.reduceMul, List.length_append, decide_eq_true_eq, zc, z7, Int.reduceToNat, Int.reduceLE, Int.reduceLT, Int.reduceBNe, Int.reduceBEq, h71, hne]
           rfl
         · simp only [go_sem, Nat.reduceLT, Nat.reduceEqDiff]
           rfl
         · rfl
         first
         | (apply zg
            · simp only [z6, z5, Nat.reduceLT, decide_true, cond_true, ins]
              rfl
            · simp only [z6, z5, Nat.reduceLT, decide_true, cond_true, ins]
              rfl)
         | (apply zl
            · simp only [z6, z5, Nat.reduceLT, decide_true, cond_true, ins]
              rfl))
      | ((first | apply ze | apply zf)
         · rfl
         · simp only [z6, z5, Nat.reduceLT, decide_true, cond_true, ins]
           rfl)
      | (apply zd
         · simp only [go_sem, Nat.reduceEqDiff])
      | (apply z8
         · simp only [go_sem, Nat.reduceEqDiff])
      | (apply zk
         · kernel_rfl
         · kernel_rfl)
      | (simp only [bW, if_true, Nat.reduceEqDiff, if_false])
    all_goals try simp only [go_sem, Nat.reduceEqDiff, bP, Nat.reduceAdd, Nat.reduceLeDiff, List.length_map, Tryd.f19]
    all_goals first | done | rfl | (simp_all []; done) | trace_state

theorem t30 (p : Paper) (hwf : p.wf) : (lim cfg).pure 30 [zN p] = some (if zr p then .tup [B (possibleF p), I 0] else .tup [B false, I 30]) := by
  have h15 := t15 p hwf
  unfold check at h15
  cases hok : zr p with
  | false =>
    rw [hok] at h15
    simp only [Bool.false_eq_true, if_false] at h15 ⊢
    refine zu (zn 30) cfn30 rfl (n := 12) rfl ?_
    simp only [bW, if_true, Nat.reduceEqDiff, if_false, zp]
    repeat' first
      | (intro hb; first | cases hb | skip)
      | ((first | apply z9 | apply zh)
         · rfl
         · simp (disch := assumption) only [go_sem, Nat.reduceEqDiff, Nat.reduceAdd, bP, zj, Nat.reduceLeDiff, Nat.reduceLT, Nat.reduceMul, List.length_append, decide_eq_true_eq, zc, z7, Int.reduceToNat, Int.reduceLE, Int.reduceLT, Int.reduceBNe, Int.reduceBEq, h15]
           rfl
         · simp only [go_sem, Nat.reduceLT, Nat.reduceEqDiff]
           rfl
         · rfl
         first
         | (apply zg
            · simp only [z6, z5, Nat.reduceLT, decide_true, cond_true, ins]
              rfl
            · simp only [z6, z5, Nat.reduceLT, decide_true, cond_true, ins]
              rfl)
         | (apply zl
            · simp only [z6, z5, Nat.reduceLT, decide_true, cond_true, ins]
              rfl))
      | ((first | apply ze | apply zf)
         · rfl
         · simp only [z6, z5, Nat.reduceLT, decide_true, cond_true, ins]
           rfl)
      | (apply zd
         · simp only [go_sem, Nat.reduceEqDiff])
      | (apply z8
         · simp only [go_sem, Nat.reduceEqDiff])
      | (apply zk
         · kernel_rfl
         · kernel_rfl)
      | (simp only [bW, if_true, Nat.reduceEqDiff, if_false])
    all_goals try simp only [go_sem, Nat.reduceEqDiff, bP, Nat.reduceAdd, Nat.reduceLeDiff, List.length_map, Tryd.f30]
    all_goals first | done | rfl | (simp_all []; done) | trace_state
  | true =>
    rw [hok] at h15
    simp only [if_true] at h15 ⊢
    have h79 := t79' p hwf hok
    cases hp : possibleF p <;> rw [hp] at h79
    all_goals
      refine zu (zn 30) cfn30 rfl (n := 12) rfl ?_
      simp only [bW, if_true, Nat.reduceEqDiff, if_false, zp]
      repeat' first
        | (intro hb; first | cases hb | skip)
        | ((first | apply z9 | apply zh)
           · rfl
           · simp (disch := assumption) only [go_sem, Nat.reduceEqDiff, Nat.reduceAdd, bP, zj, Nat.reduceLeDiff, Nat.reduceLT, Nat.reduceMul, List.length_append, decide_eq_true_eq, zc, z7, Int.reduceToNat, Int.reduceLE, Int.reduceLT, Int.reduceBNe, Int.reduceBEq, h15, h79]
             rfl
           · simp only [go_sem, Nat.reduceLT, Nat.reduceEqDiff]
             rfl
           · rfl
           first
           | (apply zg
              · simp only [z6, z5, Nat.reduceLT, decide_true, cond_true, ins]
                rfl
              · simp only [z6, z5, Nat.reduceLT, decide_true, cond_true, ins]
                rfl)
           | (apply zl
              · simp only [z6, z5, Nat.reduceLT, decide_true, cond_true, ins]
                rfl))
        | ((first | apply ze | apply zf)
           · rfl
           · simp only [z6, z5, Nat.reduceLT, decide_true, cond_true, ins]
             rfl)
        | (apply zd
           · simp only [go_sem, Nat.reduceEqDiff])
        | (apply z8
           · simp only [go_sem, Nat.reduceEqDiff])
        | (apply zk
           · kernel_rfl
           · kernel_rfl)
        | (simp only [bW, if_true, Nat.reduceEqDiff, if_false])
      all_goals try simp only [go_sem, Nat.reduceEqDiff, bP, Nat.reduceAdd, Nat.reduceLeDiff, List.length_map, Tryd.f30]
      all_goals first | done | rfl | (simp_all []; done) | trace_state


end Go.VS
namespace Go.VS
open Go Go.Proofs
set_option maxHeartbeats 0
set_option linter.unusedSimpArgs false

noncomputable def lp81_5 : Code := zM [1, 1, 0, 1, 0, 0] (zy Tryd.f81)
theorem lk81_5 : cfg.keep 81 (zA lp81_5) = [1, 2, 4, 13, 14] := by kernel_rfl

def endF0 (p : Paper) (s : Nat) : F4 := ⟨(loF p s 0).n, (loF p s 0).d, (loF p s 1).n, (loF p s 1).d⟩
theorem L81_5_0 {F : Exit → St → Option D} (p : Paper) (k : List Kt) (x : D) (hwf : p.wf) (hok : zr p = true) : ∀ (m i : Nat) (l : List F4), (i : Int) + m = p.sheets → l.length + m ≤ 1000 →
    (∀ l', l' = l ++ (List.range' i m).map (endF0 p) → zH cfg (lim cfg) 81 F k (.exit 0) ⟨33, [(15, B false), (1, I 0), (2, .lref 0 0 3 0), (4, gD 1 4 (l')), (13, I p.sheets), (14, I (i + m : Nat))], (0, ⟨[zN p], 3, false⟩) :: gO 1 4 encF (l'), gN 1 (l'), 0⟩ = some x) →
    EvL cfg (lim cfg) 81 F lp81_5 k ⟨33, [(1, I 0), (2, .lref 0 0 3 0), (4, gD 1 4 (l)), (13, I p.sheets), (14, I (i : Nat))], (0, ⟨[zN p], 3, false⟩) :: gO 1 4 encF (l), gN 1 (l), 0⟩ = some x := by
  intro m
  obtain ⟨o1, o2, _⟩ := zD hok
  induction m with
  | zero =>
    intro i l hi he h
    have hi' : ((i : Int) < p.sheets) = False := by simp; omega
    refine zq ?_
    try dsimp only [lp81_5, zM, zy, Tryd.f81]
    simp only [bW, if_true, Nat.reduceEqDiff, if_false]
    repeat' first
      | (intro hb; first | cases hb | skip)
      | ((first | apply z9 | apply zh)
         · rfl
         · simp (disch := assumption) only [go_sem, Nat.reduceEqDiff, Nat.reduceAdd, bP, zj, Nat.reduceLeDiff, Nat.reduceLT, Nat.reduceMul, List.length_append, decide_eq_true_eq, zc, z7, Int.reduceToNat, Int.reduceLE, Int.reduceLT, Int.reduceBNe, Int.reduceBEq, hi']
           rfl
         · simp only [go_sem, Nat.reduceLT, Nat.reduceEqDiff]
           rfl
         · rfl
         first
         | (apply zg
            · simp only [z6, z5, Nat.reduceLT, decide_true, cond_true, ins]
              rfl
            · simp only [z6, z5, Nat.reduceLT, decide_true, cond_true, ins]
              rfl)
         | (apply zl
            · simp only [z6, z5, Nat.reduceLT, decide_true, cond_true, ins]
              rfl))
      | ((first | apply ze | apply zf)
         · rfl
         · simp only [z6, z5, Nat.reduceLT, decide_true, cond_true, ins]
           rfl)
      | (apply zd
         · simp only [go_sem, Nat.reduceEqDiff])
      | (apply z8
         · simp only [go_sem, Nat.reduceEqDiff])
      | (apply zk
         · kernel_rfl
         · kernel_rfl)
      | (simp only [bW, if_true, Nat.reduceEqDiff, if_false])
    have := h l (by simp)
    rw [Nat.add_zero] at this
    exact this
  | succ m ih =>
    intro i l hi he h
    have hlt' : ((i : Int) < p.sheets) = True := by simp; omega
    have hw3 : IntKind.i64.wrap ((i : Int) + 1) = ((i + 1 : Nat) : Int) := by rw [wrap_i64 (by omega) (by omega)]; omega
    have hs : zz p i = true := by simp [zz]; omega
    have h73a := t73 p i 0 hwf hok hs
    have h73b := t73 p i 1 hwf hok hs
    rw [show i + (m + 1) = i + 1 + m by omega] at h
    cases l with
    | nil =>
      simp only [gD, gO, gN]
      refine zq ?_
      try dsimp only [lp81_5, zM, zy, Tryd.f81]
      simp only [bW, if_true, Nat.reduceEqDiff, if_false]
      repeat' first
        | (intro hb; first | cases hb | skip)
        | ((first | apply z9 | apply zh)
           · rfl
           · simp (disch := assumption) only [go_sem, Nat.reduceEqDiff, Nat.reduceAdd, bP, zj, Nat.reduceLeDiff, Nat.reduceLT, Nat.reduceMul, List.length_append, decide_eq_true_eq, zc, z7, Int.reduceToNat, Int.reduceLE, Int.reduceLT, Int.reduceBNe, Int.reduceBEq, hlt', hw3, h73a, h73b, show (0 : Nat) < 2 from by decide, show (1 : Nat) < 2 from by decide, okF.allOk]
             rfl
           · simp only [go_sem, Nat.reduceLT, Nat.reduceEqDiff]
             rfl
           · rfl
           first
           | (apply zg
              · simp only [z6, z5, Nat.reduceLT, decide_true, cond_true, ins]
                rfl
              · simp only [z6, z5, Nat.reduceLT, decide_true, cond_true, ins]
                rfl)
           | (apply zl
              · simp only [z6, z5, Nat.reduceLT, decide_true, cond_true, ins]
                rfl))
        | ((first | apply ze | apply zf)
           · rfl
           · simp only [z6, z5, Nat.reduceLT, decide_true, cond_true, ins]
             rfl)
        | (apply zd
           · simp only [go_sem, Nat.reduceEqDiff])
        | (apply z8
           · simp only [go_sem, Nat.reduceEqDiff])
        | (apply zk
           · kernel_rfl
           · kernel_rfl)
        | (simp only [bW, if_true, Nat.reduceEqDiff, if_false])
      refine zG (st1 := ⟨33, [(1, I 0), (2, .lref 0 0 3 0), (4, gD 1 4 ([endF0 p i])), (13, I p.sheets), (14, I (i + 1 : Nat))], (0, ⟨[zN p], 3, false⟩) :: gO 1 4 encF ([endF0 p i]), gN 1 ([endF0 p i]), 0⟩) lk81_5 (by
        simp only [go_sem, List.map_append, Nat.reduceEqDiff, Nat.reduceLT, Nat.reduceAdd, bI, bD, bI2, okF.renL, okF.idsL, okF.idsL_app, gD, gO, gN, endF0, encF, zN, List.length_append, List.length_map]) (ih (i + 1) ([endF0 p i]) (by omega) (by simp at he ⊢; omega) (fun l' hl' => h l' (by rw [hl', List.range'_succ]; simp)))
    | cons e r =>
      simp only [List.length_cons] at he
      have hle : (r.length + 1 + 1 ≤ r.length + 1) = False := by simp
      have hb1 : ((r.length + 1 + 1) * 32 ≤ big) = True := by simp [big]; omega
      have hb2 : (r.length + 1 + 1 ≤ big) = True := by simp [big]; omega
      have hao : allOk 4 (encF e :: List.map encF r) = true := okF.allOk (e :: r)
      simp only [gD, gO, gN, List.map_cons]
      refine zq ?_
      try dsimp only [lp81_5, zM, zy, Tryd.f81]
      simp only [bW, if_true, Nat.reduceEqDiff, if_false]
      repeat' first
        | (intro hb; first | cases hb | skip)
        | ((first | apply z9 | apply zh)
           · rfl
           · simp (disch := assumption) only [go_sem, Nat.reduceEqDiff, Nat.reduceAdd, bP, zj, Nat.reduceLeDiff, Nat.reduceLT, Nat.reduceMul, List.length_append, decide_eq_true_eq, zc, z7, Int.reduceToNat, Int.reduceLE, Int.reduceLT, Int.reduceBNe, Int.reduceBEq, hlt', hw3, h73a, h73b, show (0 : Nat) < 2 from by decide, show (1 : Nat) < 2 from by decide, okF.allOk, hao, hle, hb1, hb2, List.length_map]
             rfl
           · simp only [go_sem, Nat.reduceLT, Nat.reduceEqDiff]
             rfl
           · rfl
           first
           | (apply zg
              · simp only [z6, z5, Nat.reduceLT, decide_true, cond_true, ins]
                rfl
              · simp only [z6, z5, Nat.reduceLT, decide_true, cond_true, ins]
                rfl)
           | (apply zl
              · simp only [z6, z5, Nat.reduceLT, decide_true, cond_true, ins]
                rfl))
        | ((first | apply ze | apply zf)
           · rfl
           · simp only [z6, z5, Nat.reduceLT, decide_true, cond_true, ins]
             rfl)
        | (apply zd
           · simp only [go_sem, Nat.reduceEqDiff])
        | (apply z8
           · simp only [go_sem, Nat.reduceEqDiff])
        | (apply zk
           · kernel_rfl
           · kernel_rfl)
        | (simp only [bW, if_true, Nat.reduceEqDiff, if_false])
      refine zG (st1 := ⟨33, [(1, I 0), (2, .lref 0 0 3 0), (4, gD 1 4 ((e :: r) ++ [endF0 p i])), (13, I p.sheets), (14, I (i + 1 : Nat))], (0, ⟨[zN p], 3, false⟩) :: gO 1 4 encF ((e :: r) ++ [endF0 p i]), gN 1 ((e :: r) ++ [endF0 p i]), 0⟩) lk81_5 (by
        simp only [go_sem, List.map_append, Nat.reduceEqDiff, Nat.reduceLT, Nat.reduceAdd, bI, bD, bI2, okF.renL, okF.idsL, okF.idsL_app, gD, gO, gN, endF0, encF, zN, List.length_append, List.length_map]) (ih (i + 1) ((e :: r) ++ [endF0 p i]) (by omega) (by simp at he ⊢; omega) (fun l' hl' => h l' (by rw [hl', List.range'_succ]; simp)))
def endsF0 (p : Paper) : List F4 := (List.range' 0 p.sheets.toNat).map (endF0 p)
theorem t81_0 (p : Paper) (hwf : p.wf) : (lim cfg).pure 81 [zN p, I 0] = some (if knownF p 0 [] = 0 then .tup [.sl false ((endsF0 p).map encF) 4 none, I 0] else .tup [.sl true [] 0 none, I (knownF p 0 [])]) := by
  have h71' := t71 p 0 true [] hwf 0 (by simp) (by simp) (by simp)
  simp only [List.map_nil] at h71'
  by_cases hk : knownF p 0 [] = 0
  · rw [if_pos hk]
    rw [hk] at h71'
    obtain ⟨hok, hp, hs, hax⟩ := known_zero.1 hk
    obtain ⟨o1, o2, _⟩ := zD hok
    obtain ⟨n, hn⟩ := Int.eq_ofNat_of_zero_le (show 0 ≤ p.sheets by omega)
    refine zu (zn 81) cfn81 rfl (n := 33) rfl ?_
    generalize hF : finP cfg Tryd.f81 = F
    simp only [bW, if_true, Nat.reduceEqDiff, if_false, zp]
    repeat' first
      | (intro hb; first | cases hb | skip)
      | ((first | apply z9 | apply zh)
         · rfl
         · simp (disch := assumption) only [go_sem, Nat.reduceEqDiff, Nat.reduceAdd, bP, zj, Nat.reduceLeDiff, Nat.reduceLT, Nat.reduceMul, List.length_append, decide_eq_true_eq, zc, z7, Int.reduceToNat, Int.reduceLE, Int.reduceLT, Int.reduceBNe, Int.reduceBEq, h71']
           rfl
         · simp only [go_sem, Nat.reduceLT, Nat.reduceEqDiff]
           rfl
         · rfl
         first
         | (apply zg
            · simp only [z6, z5, Nat.reduceLT, decide_true, cond_true, ins]
              rfl
            · simp only [z6, z5, Nat.reduceLT, decide_true, cond_true, ins]
              rfl)
         | (apply zl
            · simp only [z6, z5, Nat.reduceLT, decide_true, cond_true, ins]
              rfl))
      | ((first | apply ze | apply zf)
         · rfl
         · simp only [z6, z5, Nat.reduceLT, decide_true, cond_true, ins]
           rfl)
      | (apply zd
         · simp only [go_sem, Nat.reduceEqDiff])
      | (apply z8
         · simp only [go_sem, Nat.reduceEqDiff])
      | (apply zk
         · kernel_rfl
         · kernel_rfl)
      | (simp only [bW, if_true, Nat.reduceEqDiff, if_false])
    refine w_loop (st1 := ⟨33, [(1, I 0), (2, .lref 0 0 3 0), (4, gD 1 4 ([])), (13, I p.sheets), (14, I (0 : Nat))], (0, ⟨[zN p], 3, false⟩) :: gO 1 4 encF ([]), gN 1 ([]), 0⟩) lk81_5 (by
      simp only [go_sem, List.map_append, Nat.reduceEqDiff, Nat.reduceLT, Nat.reduceAdd, bI, bD, bI2, gD, gO, gN]
      try rfl) (L81_5_0 p _ _ hwf hok n 0 [] (by omega) (by simp; omega) (fun l hl => ?_))
    obtain ⟨e, r, rfl⟩ : ∃ e r, l = e :: r := by
      cases l with
      | nil => 
        have := congrArg List.length hl
        simp at this; omega
      | cons e r => exact ⟨e, r, rfl⟩
    have hl' : e :: r = endsF0 p := by rw [hl]; simp [endsF0, hn]
    rw [← hl']
    simp only [gD, gO, gN, List.map_cons]
    simp only [bW, if_true, Nat.reduceEqDiff, if_false]
    repeat' first
      | (intro hb; first | cases hb | skip)
      | ((first | apply z9 | apply zh)
         · rfl
         · simp (disch := assumption) only [go_sem, Nat.reduceEqDiff, Nat.reduceAdd, bP, zj, Nat.reduceLeDiff, Nat.reduceLT, Nat.reduceMul, List.length_append, decide_eq_true_eq, zc, z7, Int.reduceToNat, Int.reduceLE, Int.reduceLT, Int.reduceBNe, Int.reduceBEq]
           rfl
         · simp only [go_sem, Nat.reduceLT, Nat.reduceEqDiff]
           rfl
         · rfl
         first
         | (apply zg
            · simp only [z6, z5, Nat.reduceLT, decide_true, cond_true, ins]
              rfl
            · simp only [z6, z5, Nat.reduceLT, decide_true, cond_true, ins]
              rfl)
         | (apply zl
            · simp only [z6, z5, Nat.reduceLT, decide_true, cond_true, ins]
              rfl))
      | ((first | apply ze | apply zf)
         · rfl
         · simp only [z6, z5, Nat.reduceLT, decide_true, cond_true, ins]
           rfl)
      | (apply zd
         · simp only [go_sem, Nat.reduceEqDiff])
      | (apply z8
         · simp only [go_sem, Nat.reduceEqDiff])
      | (apply zk
         · kernel_rfl
         · kernel_rfl)
      | (simp only [bW, if_true, Nat.reduceEqDiff, if_false])
    subst hF
    simp only [go_sem, Nat.reduceEqDiff, bP, Nat.reduceAdd, Nat.reduceLeDiff, List.length_map, Tryd.f81, okF.snapAll, zc, okF.snap]
  · rw [if_neg hk]
    have hne : (knownF p 0 [] != 0) = true := by simp [hk]
    refine zu (zn 81) cfn81 rfl (n := 33) rfl ?_
    simp only [bW, if_true, Nat.reduceEqDiff, if_false, zp]
    repeat' first
      | (intro hb; first | cases hb | skip)
      | ((first | apply z9 | apply zh)
         · rfl
         · simp (disch := assumption) only [go_sem, Nat.reduceEqDiff, Nat.reduceAdd, bP, zj, Nat.reduceLeDiff, Nat.reduceLT, Nat.reduceMul, List.length_append, decide_eq_true_eq, zc, z7, Int.reduceToNat, Int.reduceLE, Int.reduceLT, Int.reduceBNe, Int.reduceBEq, h71', hne]
           rfl
         · simp only [go_sem, Nat.reduceLT, Nat.reduceEqDiff]
           rfl
         · rfl
         first
         | (apply zg
            · simp only [z6, z5, Nat.reduceLT, decide_true, cond_true, ins]
              rfl
            · simp only [z6, z5, Nat.reduceLT, decide_true, cond_true, ins]
              rfl)
         | (apply zl
            · simp only [z6, z5, Nat.reduceLT, decide_true, cond_true, ins]
              rfl))
      | ((first | apply ze | apply zf)
         · rfl
         · simp only [z6, z5, Nat.reduceLT, decide_true, cond_true, ins]
           rfl)
      | (apply zd
         · simp only [go_sem, Nat.reduceEqDiff])
      | (apply z8
         · simp only [go_sem, Nat.reduceEqDiff])
      | (apply zk
         · kernel_rfl
         · kernel_rfl)
      | (simp only [bW, if_true, Nat.reduceEqDiff, if_false])
    all_goals try simp only [go_sem, Nat.reduceEqDiff, bP, Nat.reduceAdd, Nat.reduceLeDiff, List.length_map, Tryd.f81]
    all_goals first | done | rfl | (simp_all []; done) | trace_state


def endF1 (p : Paper) (s : Nat) : F4 := ⟨(hiF p s 0).n, (hiF p s 0).d, (hiF p s 1).n, (hiF p s 1).d⟩
theorem L81_5_1 {F : Exit → St → Option D} (p : Paper) (k : List Kt) (x : D) (hwf : p.wf) (hok : zr p = true) : ∀ (m i : Nat) (l : List F4), (i : Int) + m = p.sheets → l.length + m ≤ 1000 →
    (∀ l', l' = l ++ (List.range' i m).map (endF1 p) → zH cfg (lim cfg) 81 F k (.exit 0) ⟨33, [(15, B false), (1, I 1), (2, .lref 0 0 3 0), (4, gD 1 4 (l')), (13, I p.sheets), (14, I (i + m : Nat))], (0, ⟨[zN p], 3, false⟩) :: gO 1 4 encF (l'), gN 1 (l'), 0⟩ = some x) →
    EvL cfg (lim cfg) 81 F lp81_5 k ⟨33, [(1, I 1), (2, .lref 0 0 3 0), (4, gD 1 4 (l)), (13, I p.sheets), (14, I (i : Nat))], (0, ⟨[zN p], 3, false⟩) :: gO 1 4 encF (l), gN 1 (l), 0⟩ = some x := by
  intro m
  obtain ⟨o1, o2, _⟩ := zD hok
  induction m with
  | zero =>
    intro i l hi he h
    have hi' : ((i : Int) < p.sheets) = False := by simp; omega
    refine zq ?_
    try dsimp only [lp81_5, zM, zy, Tryd.f81]
    simp only [bW, if_true, Nat.reduceEqDiff, if_false]
    repeat' first
      | (intro hb; first | cases hb | skip)
      | ((first | apply z9 | apply zh)
         · rfl
         · simp (disch := assumption) only [go_sem, Nat.reduceEqDiff, Nat.reduceAdd, bP, zj, Nat.reduceLeDiff, Nat.reduceLT, Nat.reduceMul, List.length_append, decide_eq_true_eq, zc, z7, Int.reduceToNat, Int.reduceLE, Int.reduceLT, Int.reduceBNe, Int.reduceBEq, hi']
           rfl
         · simp only [go_sem, Nat.reduceLT, Nat.reduceEqDiff]
           rfl
         · rfl
         first
         | (apply zg
            · simp only [z6, z5, Nat.reduceLT, decide_true, cond_true, ins]
              rfl
            · simp only [z6, z5, Nat.reduceLT, decide_true, cond_true, ins]
              rfl)
         | (apply zl
            · simp only [z6, z5, Nat.reduceLT, decide_true, cond_true, ins]
              rfl))
      | ((first | apply ze | apply zf)
         · rfl
         · simp only [z6, z5, Nat.reduceLT, decide_true, cond_true, ins]
           rfl)
      | (apply zd
         · simp only [go_sem, Nat.reduceEqDiff])
      | (apply z8
         · simp only [go_sem, Nat.reduceEqDiff])
      | (apply zk
         · kernel_rfl
         · kernel_rfl)
      | (simp only [bW, if_true, Nat.reduceEqDiff, if_false])
    have := h l (by simp)
    rw [Nat.add_zero] at this
    exact this
  | succ m ih =>
    intro i l hi he h
    have hlt' : ((i : Int) < p.sheets) = True := by simp; omega
    have hw3 : IntKind.i64.wrap ((i : Int) + 1) = ((i + 1 : Nat) : Int) := by rw [wrap_i64 (by omega) (by omega)]; omega
    have hs : zz p i = true := by simp [zz]; omega
    have h73a := t73 p i 0 hwf hok hs
    have h73b := t73 p i 1 hwf hok hs
    rw [show i + (m + 1) = i + 1 + m by omega] at h
    cases l with
    | nil =>
      simp only [gD, gO, gN]
      refine zq ?_
      try dsimp only [lp81_5, zM, zy, Tryd.f81]
      simp only [bW, if_true, Nat.reduceEqDiff, if_false]
      repeat' first
        | (intro hb; first | cases hb | skip)
        | ((first | apply z9 | apply zh)
           · rfl
           · simp (disch := assumption) only [go_sem, Nat.reduceEqDiff, Nat.reduceAdd, bP, zj, Nat.reduceLeDiff, Nat.reduceLT, Nat.reduceMul, List.length_append, decide_eq_true_eq, zc, z7, Int.reduceToNat, Int.reduceLE, Int.reduceLT, Int.reduceBNe, Int.reduceBEq, hlt', hw3, h73a, h73b, show (0 : Nat) < 2 from by decide, show (1 : Nat) < 2 from by decide, okF.allOk]
             rfl
           · simp only [go_sem, Nat.reduceLT, Nat.reduceEqDiff]
             rfl
           · rfl
           first
           | (apply zg
              · simp only [z6, z5, Nat.reduceLT, decide_true, cond_true, ins]
                rfl
              · simp only [z6, z5, Nat.reduceLT, decide_true, cond_true, ins]
                rfl)
           | (apply zl
              · simp only [z6, z5, Nat.reduceLT, decide_true, cond_true, ins]
                rfl))
        | ((first | apply ze | apply zf)
           · rfl
           · simp only [z6, z5, Nat.reduceLT, decide_true, cond_true, ins]
             rfl)
        | (apply zd
           · simp only [go_sem, Nat.reduceEqDiff])
        | (apply z8
           · simp only [go_sem, Nat.reduceEqDiff])
        | (apply zk
           · kernel_rfl
           · kernel_rfl)
        | (simp only [bW, if_true, Nat.reduceEqDiff, if_false])
      refine zG (st1 := ⟨33, [(1, I 1), (2, .lref 0 0 3 0), (4, gD 1 4 ([endF1 p i])), (13, I p.sheets), (14, I (i + 1 : Nat))], (0, ⟨[zN p], 3, false⟩) :: gO 1 4 encF ([endF1 p i]), gN 1 ([endF1 p i]), 0⟩) lk81_5 (by
        simp only [go_sem, List.map_append, Nat.reduceEqDiff, Nat.reduceLT, Nat.reduceAdd, bI, bD, bI2, okF.renL, okF.idsL, okF.idsL_app, gD, gO, gN, endF1, encF, zN, List.length_append, List.length_map]) (ih (i + 1) ([endF1 p i]) (by omega) (by simp at he ⊢; omega) (fun l' hl' => h l' (by rw [hl', List.range'_succ]; simp)))
    | cons e r =>
      simp only [List.length_cons] at he
      have hle : (r.length + 1 + 1 ≤ r.length + 1) = False := by simp
      have hb1 : ((r.length + 1 + 1) * 32 ≤ big) = True := by simp [big]; omega
      have hb2 : (r.length + 1 + 1 ≤ big) = True := by simp [big]; omega
      have hao : allOk 4 (encF e :: List.map encF r) = true := okF.allOk (e :: r)
      simp only [gD, gO, gN, List.map_cons]
      refine zq ?_
      try dsimp only [lp81_5, zM, zy, Tryd.f81]
      simp only [bW, if_true, Nat.reduceEqDiff, if_false]
      repeat' first
        | (intro hb; first | cases hb | skip)
        | ((first | apply z9 | apply zh)
           · rfl
           · simp (disch := assumption) only [go_sem, Nat.reduceEqDiff, Nat.reduceAdd, bP, zj, Nat.reduceLeDiff, Nat.reduceLT, Nat.reduceMul, List.length_append, decide_eq_true_eq, zc, z7, Int.reduceToNat, Int.reduceLE, Int.reduceLT, Int.reduceBNe, Int.reduceBEq, hlt', hw3, h73a, h73b, show (0 : Nat) < 2 from by decide, show (1 : Nat) < 2 from by decide, okF.allOk, hao, hle, hb1, hb2, List.length_map]
             rfl
           · simp only [go_sem, Nat.reduceLT, Nat.reduceEqDiff]
             rfl
           · rfl
           first
           | (apply zg
              · simp only [z6, z5, Nat.reduceLT, decide_true, cond_true, ins]
                rfl
              · simp only [z6, z5, Nat.reduceLT, decide_true, cond_true, ins]
                rfl)
           | (apply zl
              · simp only [z6, z5, Nat.reduceLT, decide_true, cond_true, ins]
                rfl))
        | ((first | apply ze | apply zf)
           · rfl
           · simp only [z6, z5, Nat.reduceLT, decide_true, cond_true, ins]
             rfl)
        | (apply zd
           · simp only [go_sem, Nat.reduceEqDiff])
        | (apply z8
           · simp only [go_sem, Nat.reduceEqDiff])
        | (apply zk
           · kernel_rfl
           · kernel_rfl)
        | (simp only [bW, if_true, Nat.reduceEqDiff, if_false])
      refine zG (st1 := ⟨33, [(1, I 1), (2, .lref 0 0 3 0), (4, gD 1 4 ((e :: r) ++ [endF1 p i])), (13, I p.sheets), (14, I (i + 1 : Nat))], (0, ⟨[zN p], 3, false⟩) :: gO 1 4 encF ((e :: r) ++ [endF1 p i]), gN 1 ((e :: r) ++ [endF1 p i]), 0⟩) lk81_5 (by
        simp only [go_sem, List.map_append, Nat.reduceEqDiff, Nat.reduceLT, Nat.reduceAdd, bI, bD, bI2, okF.renL, okF.idsL, okF.idsL_app, gD, gO, gN, endF1, encF, zN, List.length_append, List.length_map]) (ih (i + 1) ((e :: r) ++ [endF1 p i]) (by omega) (by simp at he ⊢; omega) (fun l' hl' => h l' (by rw [hl', List.range'_succ]; simp)))
def endsF1 (p : Paper) : List F4 := (List.range' 0 p.sheets.toNat).map (endF1 p)
theorem t81_1 (p : Paper) (hwf : p.wf) : (lim cfg).pure 81 [zN p, I 1] = some (if knownF p 0 [] = 0 then .tup [.sl false ((endsF1 p).map encF) 4 none, I 0] else .tup [.sl true [] 0 none, I (knownF p 0 [])]) := by
  have h71' := t71 p 0 true [] hwf 0 (by simp) (by simp) (by simp)
  simp only [List.map_nil] at h71'
  by_cases hk : knownF p 0 [] = 0
  · rw [if_pos hk]
    rw [hk] at h71'
    obtain ⟨hok, hp, hs, hax⟩ := known_zero.1 hk
    obtain ⟨o1, o2, _⟩ := zD hok
    obtain ⟨n, hn⟩ := Int.eq_ofNat_of_zero_le (show 0 ≤ p.sheets by omega)
    refine zu (zn 81) cfn81 rfl (n := 33) rfl ?_
    generalize hF : finP cfg Tryd.f81 = F
    simp only [bW, if_true, Nat.reduceEqDiff, if_false, zp]
    repeat' first
      | (intro hb; first | cases hb | skip)
      | ((first | apply z9 | apply zh)
         · rfl
         · simp (disch := assumption) only [go_sem, Nat.reduceEqDiff, Nat.reduceAdd, bP, zj, Nat.reduceLeDiff, Nat.reduceLT, Nat.reduceMul, List.length_append, decide_eq_true_eq, zc, z7, Int.reduceToNat, Int.reduceLE, Int.reduceLT, Int.reduceBNe, Int.reduceBEq, h71']
           rfl
         · simp only [go_sem, Nat.reduceLT, Nat.reduceEqDiff]
           rfl
         · rfl
         first
         | (apply zg
            · simp only [z6, z5, Nat.reduceLT, decide_true, cond_true, ins]
              rfl
            · simp only [z6, z5, Nat.reduceLT, decide_true, cond_true, ins]
              rfl)
         | (apply zl
            · simp only [z6, z5, Nat.reduceLT, decide_true, cond_true, ins]
              rfl))
      | ((first | apply ze | apply zf)
         · rfl
         · simp only [z6, z5, Nat.reduceLT, decide_true, cond_true, ins]
           rfl)
      | (apply zd
         · simp only [go_sem, Nat.reduceEqDiff])
      | (apply z8
         · simp only [go_sem, Nat.reduceEqDiff])
      | (apply zk
         · kernel_rfl
         · kernel_rfl)
      | (simp only [bW, if_true, Nat.reduceEqDiff, if_false])
    refine w_loop (st1 := ⟨33, [(1, I 1), (2, .lref 0 0 3 0), (4, gD 1 4 ([])), (13, I p.sheets), (14, I (0 : Nat))], (0, ⟨[zN p], 3, false⟩) :: gO 1 4 encF ([]), gN 1 ([]), 0⟩) lk81_5 (by
      simp only [go_sem, List.map_append, Nat.reduceEqDiff, Nat.reduceLT, Nat.reduceAdd, bI, bD, bI2, gD, gO, gN]
      try rfl) (L81_5_1 p _ _ hwf hok n 0 [] (by omega) (by simp; omega) (fun l hl => ?_))
    obtain ⟨e, r, rfl⟩ : ∃ e r, l = e :: r := by
      cases l with
      | nil => 
        have := congrArg List.length hl
        simp at this; omega
      | cons e r => exact ⟨e, r, rfl⟩
    have hl' : e :: r = endsF1 p := by rw [hl]; simp [endsF1, hn]
    rw [← hl']
    simp only [gD, gO, gN, List.map_cons]
    simp only [bW, if_true, Nat.reduceEqDiff, if_false]
    repeat' first
      | (intro hb; first | cases hb | skip)
      | ((first | apply z9 | apply zh)
         · rfl
         · simp (disch := assumption) only [go_sem, Nat.reduceEqDiff, Nat.reduceAdd, bP, zj, Nat.reduceLeDiff, Nat.reduceLT, Nat.reduceMul, List.length_append, decide_eq_true_eq, zc, z7, Int.reduceToNat, Int.reduceLE, Int.reduceLT, Int.reduceBNe, Int.reduceBEq]
           rfl
         · simp only [go_sem, Nat.reduceLT, Nat.reduceEqDiff]
           rfl
         · rfl
         first
         | (apply zg
            · simp only [z6, z5, Nat.reduceLT, decide_true, cond_true, ins]
              rfl
            · simp only [z6, z5, Nat.reduceLT, decide_true, cond_true, ins]
              rfl)
         | (apply zl
            · simp only [z6, z5, Nat.reduceLT, decide_true, cond_true, ins]
              rfl))
      | ((first | apply ze | apply zf)
         · rfl
         · simp only [z6, z5, Nat.reduceLT, decide_true, cond_true, ins]
           rfl)
      | (apply zd
         · simp only [go_sem, Nat.reduceEqDiff])
      | (apply z8
         · simp only [go_sem, Nat.reduceEqDiff])
      | (apply zk
         · kernel_rfl
         · kernel_rfl)
      | (simp only [bW, if_true, Nat.reduceEqDiff, if_false])
    subst hF
    simp only [go_sem, Nat.reduceEqDiff, bP, Nat.reduceAdd, Nat.reduceLeDiff, List.length_map, Tryd.f81, okF.snapAll, zc, okF.snap]
  · rw [if_neg hk]
    have hne : (knownF p 0 [] != 0) = true := by simp [hk]
    refine zu (zn 81) cfn81 rfl (n := 33) rfl ?_
    simp only [bW, if_true, Nat.reduceEqDiff, if_false, zp]
    repeat' first
      | (intro hb; first | cases hb | skip)
      | ((first | apply z9 | apply zh)
         · rfl
         · simp (disch := assumption) only [go_sem, Nat.reduceEqDiff, Nat.reduceAdd, bP, zj, Nat.reduceLeDiff, Nat.reduceLT, Nat.reduceMul, List.length_append, decide_eq_true_eq, zc, z7, Int.reduceToNat, Int.reduceLE, Int.reduceLT, Int.reduceBNe, Int.reduceBEq, h71', hne]
           rfl
         · simp only [go_sem, Nat.reduceLT, Nat.reduceEqDiff]
           rfl
         · rfl
         first
         | (apply zg
            · simp only [z6, z5, Nat.reduceLT, decide_true, cond_true, ins]
              rfl
            · simp only [z6, z5, Nat.reduceLT, decide_true, cond_true, ins]
              rfl)
         | (apply zl
            · simp only [z6, z5, Nat.reduceLT, decide_true, cond_true, ins]
              rfl))
      | ((first | apply ze | apply zf)
         · rfl
         · simp only [z6, z5, Nat.reduceLT, decide_true, cond_true, ins]
           rfl)
      | (apply zd
         · simp only [go_sem, Nat.reduceEqDiff])
      | (apply z8
         · simp only [go_sem, Nat.reduceEqDiff])
      | (apply zk
         · kernel_rfl
         · kernel_rfl)
      | (simp only [bW, if_true, Nat.reduceEqDiff, if_false])
    all_goals try simp only [go_sem, Nat.reduceEqDiff, bP, Nat.reduceAdd, Nat.reduceLeDiff, List.length_map, Tryd.f81]
    all_goals first | done | rfl | (simp_all []; done) | trace_state


end Go.VS
namespace Go.VS
open Go Go.Proofs
set_option maxHeartbeats 0
set_option linter.unusedSimpArgs false

theorem pd_why {t : Ty} {sub : Nat} {ws : List Reason} : zv t sub (whyD ws) = if t.isAgg then none else if sub = 0 then some (whyD ws) else none := by cases ws <;> rfl
noncomputable def lp48_5 : Code := zM [1, 1, 0, 1, 0, 0] (zy Tryd.f48)
theorem lk48_5 : cfg.keep 48 (zA lp48_5) = [1, 13] := by kernel_rfl

noncomputable def lp57_4 : Code := zM [1, 1, 0, 1, 0, 0] (zy Tryd.f57)
theorem lk57_4 : cfg.keep 57 (zA lp57_4) = [0, 1, 12, 13] := by kernel_rfl

theorem t32 (p : Paper) (hwf : p.wf) : (lim cfg).pure 32 [zN p] = some (if knownF p 0 [] = 0 then .tup [.sl false ((endsF0 p).map encF) 4 none, I 0] else .tup [.sl true [] 0 none, I (knownF p 0 [])]) := by
  have h81 := t81_0 p hwf
  split at h81 <;> rename_i hk
  · rw [if_pos hk]
    refine zu (zn 32) cfn32 rfl (n := 8) rfl ?_
    simp only [bW, if_true, Nat.reduceEqDiff, if_false, zp]
    repeat' first
      | (intro hb; first | cases hb | skip)
      | ((first | apply z9 | apply zh)
         · rfl
         · simp (disch := assumption) only [go_sem, Nat.reduceEqDiff, Nat.reduceAdd, bP, zj, Nat.reduceLeDiff, Nat.reduceLT, Nat.reduceMul, List.length_append, decide_eq_true_eq, zc, z7, Int.reduceToNat, Int.reduceLE, Int.reduceLT, Int.reduceBNe, Int.reduceBEq, h81]
           rfl
         · simp only [go_sem, Nat.reduceLT, Nat.reduceEqDiff]
           rfl
         · rfl
         first
         | (apply zg
            · simp only [z6, z5, Nat.reduceLT, decide_true, cond_true, ins]
              rfl
            · simp only [z6, z5, Nat.reduceLT, decide_true, cond_true, ins]
              rfl)
         | (apply zl
            · simp only [z6, z5, Nat.reduceLT, decide_true, cond_true, ins]
              rfl))
      | ((first | apply ze | apply zf)
         · rfl
         · simp only [z6, z5, Nat.reduceLT, decide_true, cond_true, ins]
           rfl)
      | (apply zd
         · simp only [go_sem, Nat.reduceEqDiff])
      | (apply z8
         · simp only [go_sem, Nat.reduceEqDiff])
      | (apply zk
         · kernel_rfl
         · kernel_rfl)
      | (simp only [bW, if_true, Nat.reduceEqDiff, if_false])
    all_goals try simp only [go_sem, Nat.reduceEqDiff, bP, Nat.reduceAdd, Nat.reduceLeDiff, List.length_map, Tryd.f32, okF.snapAll]
    all_goals first | done | rfl | (simp_all []; done) | trace_state
  · rw [if_neg hk]
    refine zu (zn 32) cfn32 rfl (n := 8) rfl ?_
    simp only [bW, if_true, Nat.reduceEqDiff, if_false, zp]
    repeat' first
      | (intro hb; first | cases hb | skip)
      | ((first | apply z9 | apply zh)
         · rfl
         · simp (disch := assumption) only [go_sem, Nat.reduceEqDiff, Nat.reduceAdd, bP, zj, Nat.reduceLeDiff, Nat.reduceLT, Nat.reduceMul, List.length_append, decide_eq_true_eq, zc, z7, Int.reduceToNat, Int.reduceLE, Int.reduceLT, Int.reduceBNe, Int.reduceBEq, h81]
           rfl
         · simp only [go_sem, Nat.reduceLT, Nat.reduceEqDiff]
           rfl
         · rfl
         first
         | (apply zg
            · simp only [z6, z5, Nat.reduceLT, decide_true, cond_true, ins]
              rfl
            · simp only [z6, z5, Nat.reduceLT, decide_true, cond_true, ins]
              rfl)
         | (apply zl
            · simp only [z6, z5, Nat.reduceLT, decide_true, cond_true, ins]
              rfl))
      | ((first | apply ze | apply zf)
         · rfl
         · simp only [z6, z5, Nat.reduceLT, decide_true, cond_true, ins]
           rfl)
      | (apply zd
         · simp only [go_sem, Nat.reduceEqDiff])
      | (apply z8
         · simp only [go_sem, Nat.reduceEqDiff])
      | (apply zk
         · kernel_rfl
         · kernel_rfl)
      | (simp only [bW, if_true, Nat.reduceEqDiff, if_false])
    all_goals try simp only [go_sem, Nat.reduceEqDiff, bP, Nat.reduceAdd, Nat.reduceLeDiff, List.length_map, Tryd.f32]
    all_goals first | done | rfl | (simp_all []; done) | trace_state

theorem t33 (p : Paper) (hwf : p.wf) : (lim cfg).pure 33 [zN p] = some (if knownF p 0 [] = 0 then .tup [.sl false ((endsF1 p).map encF) 4 none, I 0] else .tup [.sl true [] 0 none, I (knownF p 0 [])]) := by
  have h81 := t81_1 p hwf
  split at h81 <;> rename_i hk
  · rw [if_pos hk]
    refine zu (zn 33) cfn33 rfl (n := 8) rfl ?_
    simp only [bW, if_true, Nat.reduceEqDiff, if_false, zp]
    repeat' first
      | (intro hb; first | cases hb | skip)
      | ((first | apply z9 | apply zh)
         · rfl
         · simp (disch := assumption) only [go_sem, Nat.reduceEqDiff, Nat.reduceAdd, bP, zj, Nat.reduceLeDiff, Nat.reduceLT, Nat.reduceMul, List.length_append, decide_eq_true_eq, zc, z7, Int.reduceToNat, Int.reduceLE, Int.reduceLT, Int.reduceBNe, Int.reduceBEq, h81]
           rfl
         · simp only [go_sem, Nat.reduceLT, Nat.reduceEqDiff]
           rfl
         · rfl
         first
         | (apply zg
            · simp only [z6, z5, Nat.reduceLT, decide_true, cond_true, ins]
              rfl
            · simp only [z6, z5, Nat.reduceLT, decide_true, cond_true, ins]
              rfl)
         | (apply zl
            · simp only [z6, z5, Nat.reduceLT, decide_true, cond_true, ins]
              rfl))
      | ((first | apply ze | apply zf)
         · rfl
         · simp only [z6, z5, Nat.reduceLT, decide_true, cond_true, ins]
           rfl)
      | (apply zd
         · simp only [go_sem, Nat.reduceEqDiff])
      | (apply z8
         · simp only [go_sem, Nat.reduceEqDiff])
      | (apply zk
         · kernel_rfl
         · kernel_rfl)
      | (simp only [bW, if_true, Nat.reduceEqDiff, if_false])
    all_goals try simp only [go_sem, Nat.reduceEqDiff, bP, Nat.reduceAdd, Nat.reduceLeDiff, List.length_map, Tryd.f33, okF.snapAll]
    all_goals first | done | rfl | (simp_all []; done) | trace_state
  · rw [if_neg hk]
    refine zu (zn 33) cfn33 rfl (n := 8) rfl ?_
    simp only [bW, if_true, Nat.reduceEqDiff, if_false, zp]
    repeat' first
      | (intro hb; first | cases hb | skip)
      | ((first | apply z9 | apply zh)
         · rfl
         · simp (disch := assumption) only [go_sem, Nat.reduceEqDiff, Nat.reduceAdd, bP, zj, Nat.reduceLeDiff, Nat.reduceLT, Nat.reduceMul, List.length_append, decide_eq_true_eq, zc, z7, Int.reduceToNat, Int.reduceLE, Int.reduceLT, Int.reduceBNe, Int.reduceBEq, h81]
           rfl
         · simp only [go_sem, Nat.reduceLT, Nat.reduceEqDiff]
           rfl
         · rfl
         first
         | (apply zg
            · simp only [z6, z5, Nat.reduceLT, decide_true, cond_true, ins]
              rfl
            · simp only [z6, z5, Nat.reduceLT, decide_true, cond_true, ins]
              rfl)
         | (apply zl
            · simp only [z6, z5, Nat.reduceLT, decide_true, cond_true, ins]
              rfl))
      | ((first | apply ze | apply zf)
         · rfl
         · simp only [z6, z5, Nat.reduceLT, decide_true, cond_true, ins]
           rfl)
      | (apply zd
         · simp only [go_sem, Nat.reduceEqDiff])
      | (apply z8
         · simp only [go_sem, Nat.reduceEqDiff])
      | (apply zk
         · kernel_rfl
         · kernel_rfl)
      | (simp only [bW, if_true, Nat.reduceEqDiff, if_false])
    all_goals try simp only [go_sem, Nat.reduceEqDiff, bP, Nat.reduceAdd, Nat.reduceLeDiff, List.length_map, Tryd.f33]
    all_goals first | done | rfl | (simp_all []; done) | trace_state

def clashR (p : Paper) : Option Chn := match clashA p 0 with | some c => some c | none => clashA p 1
def clashD (o : Option Chn) : D := match o with | some c => .tup [whyD c.why, B true, I 0] | none => .tup [.sl true [] 0 none, B false, I 0]
theorem t48 (p : Paper) (hwf : p.wf) : (lim cfg).pure 48 [zN p] = some (if zr p then clashD (clashR p) else .tup [.sl true [] 0 none, B false, I 30]) := by
  have h15 := t15 p hwf
  unfold check at h15
  cases hok : zr p with
  | false =>
    rw [hok] at h15
    simp only [Bool.false_eq_true, if_false] at h15 ⊢
    refine zu (zn 48) cfn48 rfl (n := 26) rfl ?_
    simp only [bW, if_true, Nat.reduceEqDiff, if_false, zp]
    repeat' first
      | (intro hb; first | cases hb | skip)
      | ((first | apply z9 | apply zh)
         · rfl
         · simp (disch := assumption) only [go_sem, Nat.reduceEqDiff, Nat.reduceAdd, bP, zj, Nat.reduceLeDiff, Nat.reduceLT, Nat.reduceMul, List.length_append, decide_eq_true_eq, zc, z7, Int.reduceToNat, Int.reduceLE, Int.reduceLT, Int.reduceBNe, Int.reduceBEq, h15]
           rfl
         · simp only [go_sem, Nat.reduceLT, Nat.reduceEqDiff]
           rfl
         · rfl
         first
         | (apply zg
            · simp only [z6, z5, Nat.reduceLT, decide_true, cond_true, ins]
              rfl
            · simp only [z6, z5, Nat.reduceLT, decide_true, cond_true, ins]
              rfl)
         | (apply zl
            · simp only [z6, z5, Nat.reduceLT, decide_true, cond_true, ins]
              rfl))
      | ((first | apply ze | apply zf)
         · rfl
         · simp only [z6, z5, Nat.reduceLT, decide_true, cond_true, ins]
           rfl)
      | (apply zd
         · simp only [go_sem, Nat.reduceEqDiff])
      | (apply z8
         · simp only [go_sem, Nat.reduceEqDiff])
      | (apply zk
         · kernel_rfl
         · kernel_rfl)
      | (simp only [bW, if_true, Nat.reduceEqDiff, if_false])
    all_goals try simp only [go_sem, Nat.reduceEqDiff, bP, Nat.reduceAdd, Nat.reduceLeDiff, List.length_map, Tryd.f48]
    all_goals first | done | rfl | (simp_all []; done) | trace_state
  | true =>
    rw [hok] at h15
    simp only [if_true] at h15 ⊢
    have h0 := t99 p 0 hwf hok
    have h1 := t99 p 1 hwf hok
    unfold clashR
    have e1 : IntKind.i64.wrap (0 + 1) = 1 := by decide
    have e2 : IntKind.i64.wrap (1 + 1) = 2 := by decide
    cases hc0 : clashA p 0 with
    | some c =>
      rw [hc0] at h0
      simp only [zo] at h0
      simp only [clashD]
      refine zu (zn 48) cfn48 rfl (n := 26) rfl ?_
      generalize hF : finP cfg Tryd.f48 = F
      simp only [bW, if_true, Nat.reduceEqDiff, if_false, zp]
      repeat' first
        | (intro hb; first | cases hb | skip)
        | ((first | apply z9 | apply zh)
           · rfl
           · simp (disch := assumption) only [go_sem, Nat.reduceEqDiff, Nat.reduceAdd, bP, zj, Nat.reduceLeDiff, Nat.reduceLT, Nat.reduceMul, List.length_append, decide_eq_true_eq, zc, z7, Int.reduceToNat, Int.reduceLE, Int.reduceLT, Int.reduceBNe, Int.reduceBEq, h15]
             rfl
           · simp only [go_sem, Nat.reduceLT, Nat.reduceEqDiff]
             rfl
           · rfl
           first
           | (apply zg
              · simp only [z6, z5, Nat.reduceLT, decide_true, cond_true, ins]
                rfl
              · simp only [z6, z5, Nat.reduceLT, decide_true, cond_true, ins]
                rfl)
           | (apply zl
              · simp only [z6, z5, Nat.reduceLT, decide_true, cond_true, ins]
                rfl))
        | ((first | apply ze | apply zf)
           · rfl
           · simp only [z6, z5, Nat.reduceLT, decide_true, cond_true, ins]
             rfl)
        | (apply zd
           · simp only [go_sem, Nat.reduceEqDiff])
        | (apply z8
           · simp only [go_sem, Nat.reduceEqDiff])
        | (apply zk
           · kernel_rfl
           · kernel_rfl)
        | (simp only [bW, if_true, Nat.reduceEqDiff, if_false])
      refine w_loop (st1 := ⟨26, [(1, .lref 0 0 3 0), (13, I 0)], [(0, ⟨[zN p], 3, false⟩)], 1, 0⟩) lk48_5 (by kernel_rfl) ?_
      refine zq ?_
      try dsimp only [lp48_5, zM, zy, Tryd.f48]
      simp only [bW, if_true, Nat.reduceEqDiff, if_false]
      repeat' first
        | (intro hb; first | cases hb | skip)
        | ((first | apply z9 | apply zh)
           · rfl
           · simp (disch := assumption) only [go_sem, Nat.reduceEqDiff, Nat.reduceAdd, bP, zj, Nat.reduceLeDiff, Nat.reduceLT, Nat.reduceMul, List.length_append, decide_eq_true_eq, zc, z7, Int.reduceToNat, Int.reduceLE, Int.reduceLT, Int.reduceBNe, Int.reduceBEq, h0, whyD_one, pd_why]
             rfl
           · simp only [go_sem, Nat.reduceLT, Nat.reduceEqDiff]
             rfl
           · rfl
           first
           | (apply zg
              · simp only [z6, z5, Nat.reduceLT, decide_true, cond_true, ins]
                rfl
              · simp only [z6, z5, Nat.reduceLT, decide_true, cond_true, ins]
                rfl)
           | (apply zl
              · simp only [z6, z5, Nat.reduceLT, decide_true, cond_true, ins]
                rfl))
        | ((first | apply ze | apply zf)
           · rfl
           · simp only [z6, z5, Nat.reduceLT, decide_true, cond_true, ins]
             rfl)
        | (apply zd
           · simp only [go_sem, Nat.reduceEqDiff])
        | (apply z8
           · simp only [go_sem, Nat.reduceEqDiff])
        | (apply zk
           · kernel_rfl
           · kernel_rfl)
        | (simp only [bW, if_true, Nat.reduceEqDiff, if_false])
      subst hF
      simp only [go_sem, Nat.reduceEqDiff, bP, Nat.reduceAdd, Nat.reduceLeDiff, List.length_map, Tryd.f48, zJ]
    | none =>
      rw [hc0] at h0
      simp only [zo] at h0
      cases hc1 : clashA p 1 with
      | some c =>
        rw [hc1] at h1
        simp only [zo] at h1
        simp only [clashD]
        refine zu (zn 48) cfn48 rfl (n := 26) rfl ?_
        generalize hF : finP cfg Tryd.f48 = F
        simp only [bW, if_true, Nat.reduceEqDiff, if_false, zp]
        repeat' first
          | (intro hb; first | cases hb | skip)
          | ((first | apply z9 | apply zh)
             · rfl
             · simp (disch := assumption) only [go_sem, Nat.reduceEqDiff, Nat.reduceAdd, bP, zj, Nat.reduceLeDiff, Nat.reduceLT, Nat.reduceMul, List.length_append, decide_eq_true_eq, zc, z7, Int.reduceToNat, Int.reduceLE, Int.reduceLT, Int.reduceBNe, Int.reduceBEq, h15]
               rfl
             · simp only [go_sem, Nat.reduceLT, Nat.reduceEqDiff]
               rfl
             · rfl
             first
             | (apply zg
                · simp only [z6, z5, Nat.reduceLT, decide_true, cond_true, ins]
                  rfl
                · simp only [z6, z5, Nat.reduceLT, decide_true, cond_true, ins]
                  rfl)
             | (apply zl
                · simp only [z6, z5, Nat.reduceLT, decide_true, cond_true, ins]
                  rfl))
          | ((first | apply ze | apply zf)
             · rfl
             · simp only [z6, z5, Nat.reduceLT, decide_true, cond_true, ins]
               rfl)
          | (apply zd
             · simp only [go_sem, Nat.reduceEqDiff])
          | (apply z8
             · simp only [go_sem, Nat.reduceEqDiff])
          | (apply zk
             · kernel_rfl
             · kernel_rfl)
          | (simp only [bW, if_true, Nat.reduceEqDiff, if_false])
        refine w_loop (st1 := ⟨26, [(1, .lref 0 0 3 0), (13, I 0)], [(0, ⟨[zN p], 3, false⟩)], 1, 0⟩) lk48_5 (by kernel_rfl) ?_
        refine zq ?_
        try dsimp only [lp48_5, zM, zy, Tryd.f48]
        simp only [bW, if_true, Nat.reduceEqDiff, if_false]
        repeat' first
          | (intro hb; first | cases hb | skip)
          | ((first | apply z9 | apply zh)
             · rfl
             · simp (disch := assumption) only [go_sem, Nat.reduceEqDiff, Nat.reduceAdd, bP, zj, Nat.reduceLeDiff, Nat.reduceLT, Nat.reduceMul, List.length_append, decide_eq_true_eq, zc, z7, Int.reduceToNat, Int.reduceLE, Int.reduceLT, Int.reduceBNe, Int.reduceBEq, h0, whyD_one, pd_why, e1]
               rfl
             · simp only [go_sem, Nat.reduceLT, Nat.reduceEqDiff]
               rfl
             · rfl
             first
             | (apply zg
                · simp only [z6, z5, Nat.reduceLT, decide_true, cond_true, ins]
                  rfl
                · simp only [z6, z5, Nat.reduceLT, decide_true, cond_true, ins]
                  rfl)
             | (apply zl
                · simp only [z6, z5, Nat.reduceLT, decide_true, cond_true, ins]
                  rfl))
          | ((first | apply ze | apply zf)
             · rfl
             · simp only [z6, z5, Nat.reduceLT, decide_true, cond_true, ins]
               rfl)
          | (apply zd
             · simp only [go_sem, Nat.reduceEqDiff])
          | (apply z8
             · simp only [go_sem, Nat.reduceEqDiff])
          | (apply zk
             · kernel_rfl
             · kernel_rfl)
          | (simp only [bW, if_true, Nat.reduceEqDiff, if_false])
        refine zG (st1 := ⟨26, [(1, .lref 0 0 3 0), (13, I 1)], [(0, ⟨[zN p], 3, false⟩)], 1, 0⟩) lk48_5 (by kernel_rfl) ?_
        refine zq ?_
        try dsimp only [lp48_5, zM, zy, Tryd.f48]
        simp only [bW, if_true, Nat.reduceEqDiff, if_false]
        repeat' first
          | (intro hb; first | cases hb | skip)
          | ((first | apply z9 | apply zh)
             · rfl
             · simp (disch := assumption) only [go_sem, Nat.reduceEqDiff, Nat.reduceAdd, bP, zj, Nat.reduceLeDiff, Nat.reduceLT, Nat.reduceMul, List.length_append, decide_eq_true_eq, zc, z7, Int.reduceToNat, Int.reduceLE, Int.reduceLT, Int.reduceBNe, Int.reduceBEq, h1, whyD_one, pd_why, e1]
               rfl
             · simp only [go_sem, Nat.reduceLT, Nat.reduceEqDiff]
               rfl
             · rfl
             first
             | (apply zg
                · simp only [z6, z5, Nat.reduceLT, decide_true, cond_true, ins]
                  rfl
                · simp only [z6, z5, Nat.reduceLT, decide_true, cond_true, ins]
                  rfl)
             | (apply zl
                · simp only [z6, z5, Nat.reduceLT, decide_true, cond_true, ins]
                  rfl))
          | ((first | apply ze | apply zf)
             · rfl
             · simp only [z6, z5, Nat.reduceLT, decide_true, cond_true, ins]
               rfl)
          | (apply zd
             · simp only [go_sem, Nat.reduceEqDiff])
          | (apply z8
             · simp only [go_sem, Nat.reduceEqDiff])
          | (apply zk
             · kernel_rfl
             · kernel_rfl)
          | (simp only [bW, if_true, Nat.reduceEqDiff, if_false])
        subst hF
        simp only [go_sem, Nat.reduceEqDiff, bP, Nat.reduceAdd, Nat.reduceLeDiff, List.length_map, Tryd.f48, zJ]
      | none =>
        rw [hc1] at h1
        simp only [zo] at h1
        simp only [clashD]
        refine zu (zn 48) cfn48 rfl (n := 26) rfl ?_
        generalize hF : finP cfg Tryd.f48 = F
        simp only [bW, if_true, Nat.reduceEqDiff, if_false, zp]
        repeat' first
          | (intro hb; first | cases hb | skip)
          | ((first | apply z9 | apply zh)
             · rfl
             · simp (disch := assumption) only [go_sem, Nat.reduceEqDiff, Nat.reduceAdd, bP, zj, Nat.reduceLeDiff, Nat.reduceLT, Nat.reduceMul, List.length_append, decide_eq_true_eq, zc, z7, Int.reduceToNat, Int.reduceLE, Int.reduceLT, Int.reduceBNe, Int.reduceBEq, h15]
               rfl
             · simp only [go_sem, Nat.reduceLT, Nat.reduceEqDiff]
               rfl
             · rfl
             first
             | (apply zg
                · simp only [z6, z5, Nat.reduceLT, decide_true, cond_true, ins]
                  rfl
                · simp only [z6, z5, Nat.reduceLT, decide_true, cond_true, ins]
                  rfl)
             | (apply zl
                · simp only [z6, z5, Nat.reduceLT, decide_true, cond_true, ins]
                  rfl))
          | ((first | apply ze | apply zf)
             · rfl
             · simp only [z6, z5, Nat.reduceLT, decide_true, cond_true, ins]
               rfl)
          | (apply zd
             · simp only [go_sem, Nat.reduceEqDiff])
          | (apply z8
             · simp only [go_sem, Nat.reduceEqDiff])
          | (apply zk
             · kernel_rfl
             · kernel_rfl)
          | (simp only [bW, if_true, Nat.reduceEqDiff, if_false])
        refine w_loop (st1 := ⟨26, [(1, .lref 0 0 3 0), (13, I 0)], [(0, ⟨[zN p], 3, false⟩)], 1, 0⟩) lk48_5 (by kernel_rfl) ?_
        refine zq ?_
        try dsimp only [lp48_5, zM, zy, Tryd.f48]
        simp only [bW, if_true, Nat.reduceEqDiff, if_false]
        repeat' first
          | (intro hb; first | cases hb | skip)
          | ((first | apply z9 | apply zh)
             · rfl
             · simp (disch := assumption) only [go_sem, Nat.reduceEqDiff, Nat.reduceAdd, bP, zj, Nat.reduceLeDiff, Nat.reduceLT, Nat.reduceMul, List.length_append, decide_eq_true_eq, zc, z7, Int.reduceToNat, Int.reduceLE, Int.reduceLT, Int.reduceBNe, Int.reduceBEq, h0, whyD_one, pd_why, e1]
               rfl
             · simp only [go_sem, Nat.reduceLT, Nat.reduceEqDiff]
               rfl
             · rfl
             first
             | (apply zg
                · simp only [z6, z5, Nat.reduceLT, decide_true, cond_true, ins]
                  rfl
                · simp only [z6, z5, Nat.reduceLT, decide_true, cond_true, ins]
                  rfl)
             | (apply zl
                · simp only [z6, z5, Nat.reduceLT, decide_true, cond_true, ins]
                  rfl))
          | ((first | apply ze | apply zf)
             · rfl
             · simp only [z6, z5, Nat.reduceLT, decide_true, cond_true, ins]
               rfl)
          | (apply zd
             · simp only [go_sem, Nat.reduceEqDiff])
          | (apply z8
             · simp only [go_sem, Nat.reduceEqDiff])
          | (apply zk
             · kernel_rfl
             · kernel_rfl)
          | (simp only [bW, if_true, Nat.reduceEqDiff, if_false])
        refine zG (st1 := ⟨26, [(1, .lref 0 0 3 0), (13, I 1)], [(0, ⟨[zN p], 3, false⟩)], 1, 0⟩) lk48_5 (by kernel_rfl) ?_
        refine zq ?_
        try dsimp only [lp48_5, zM, zy, Tryd.f48]
        simp only [bW, if_true, Nat.reduceEqDiff, if_false]
        repeat' first
          | (intro hb; first | cases hb | skip)
          | ((first | apply z9 | apply zh)
             · rfl
             · simp (disch := assumption) only [go_sem, Nat.reduceEqDiff, Nat.reduceAdd, bP, zj, Nat.reduceLeDiff, Nat.reduceLT, Nat.reduceMul, List.length_append, decide_eq_true_eq, zc, z7, Int.reduceToNat, Int.reduceLE, Int.reduceLT, Int.reduceBNe, Int.reduceBEq, h1, whyD_one, pd_why, e2]
               rfl
             · simp only [go_sem, Nat.reduceLT, Nat.reduceEqDiff]
               rfl
             · rfl
             first
             | (apply zg
                · simp only [z6, z5, Nat.reduceLT, decide_true, cond_true, ins]
                  rfl
                · simp only [z6, z5, Nat.reduceLT, decide_true, cond_true, ins]
                  rfl)
             | (apply zl
                · simp only [z6, z5, Nat.reduceLT, decide_true, cond_true, ins]
                  rfl))
          | ((first | apply ze | apply zf)
             · rfl
             · simp only [z6, z5, Nat.reduceLT, decide_true, cond_true, ins]
               rfl)
          | (apply zd
             · simp only [go_sem, Nat.reduceEqDiff])
          | (apply z8
             · simp only [go_sem, Nat.reduceEqDiff])
          | (apply zk
             · kernel_rfl
             · kernel_rfl)
          | (simp only [bW, if_true, Nat.reduceEqDiff, if_false])
        refine zG (st1 := ⟨26, [(1, .lref 0 0 3 0), (13, I 2)], [(0, ⟨[zN p], 3, false⟩)], 1, 0⟩) lk48_5 (by kernel_rfl) ?_
        refine zq ?_
        try dsimp only [lp48_5, zM, zy, Tryd.f48]
        simp only [bW, if_true, Nat.reduceEqDiff, if_false]
        repeat' first
          | (intro hb; first | cases hb | skip)
          | ((first | apply z9 | apply zh)
             · rfl
             · simp (disch := assumption) only [go_sem, Nat.reduceEqDiff, Nat.reduceAdd, bP, zj, Nat.reduceLeDiff, Nat.reduceLT, Nat.reduceMul, List.length_append, decide_eq_true_eq, zc, z7, Int.reduceToNat, Int.reduceLE, Int.reduceLT, Int.reduceBNe, Int.reduceBEq, h1, whyD_one, pd_why, e2]
               rfl
             · simp only [go_sem, Nat.reduceLT, Nat.reduceEqDiff]
               rfl
             · rfl
             first
             | (apply zg
                · simp only [z6, z5, Nat.reduceLT, decide_true, cond_true, ins]
                  rfl
                · simp only [z6, z5, Nat.reduceLT, decide_true, cond_true, ins]
                  rfl)
             | (apply zl
                · simp only [z6, z5, Nat.reduceLT, decide_true, cond_true, ins]
                  rfl))
          | ((first | apply ze | apply zf)
             · rfl
             · simp only [z6, z5, Nat.reduceLT, decide_true, cond_true, ins]
               rfl)
          | (apply zd
             · simp only [go_sem, Nat.reduceEqDiff])
          | (apply z8
             · simp only [go_sem, Nat.reduceEqDiff])
          | (apply zk
             · kernel_rfl
             · kernel_rfl)
          | (simp only [bW, if_true, Nat.reduceEqDiff, if_false])
        subst hF
        simp only [go_sem, Nat.reduceEqDiff, bP, Nat.reduceAdd, Nat.reduceLeDiff, List.length_map, Tryd.f48, zJ]
theorem t49 (p : Paper) (s ax : Int) (g : Bool) (hwf : p.wf) : (lim cfg).pure 49 [zN p, I s, I ax, B g] = some (if knownF p ax [s] = 0 then .tup [whyD (if g then downF p s ax else upF p s ax).why, I 0] else .tup [.sl true [] 0 none, I (knownF p ax [s])]) := by
  have h71 := t71 p ax false [s] hwf 1 (by simp) (by simp) (by simp)
  simp only [List.map_cons, List.map_nil] at h71
  by_cases hk : knownF p ax [s] = 0
  · rw [if_pos hk]
    rw [hk] at h71
    obtain ⟨hok, hp, hs, hax⟩ := known_zero.1 hk
    simp at hs
    have h100 := t100 p s ax hwf hok hs
    have h101 := t101 p s ax hwf hok hs
    simp only [zo] at h100 h101
    cases g with
    | true =>
      refine zu (zn 49) cfn49 rfl (n := 34) rfl ?_
      simp only [bW, if_true, Nat.reduceEqDiff, if_false, zp]
      repeat' first
        | (intro hb; first | cases hb | skip)
        | ((first | apply z9 | apply zh)
           · rfl
           · simp (disch := assumption) only [go_sem, Nat.reduceEqDiff, Nat.reduceAdd, bP, zj, Nat.reduceLeDiff, Nat.reduceLT, Nat.reduceMul, List.length_append, decide_eq_true_eq, zc, z7, Int.reduceToNat, Int.reduceLE, Int.reduceLT, Int.reduceBNe, Int.reduceBEq, h71, h100, h101, whyD_one, pd_why]
             rfl
           · simp only [go_sem, Nat.reduceLT, Nat.reduceEqDiff]
             rfl
           · rfl
           first
           | (apply zg
              · simp only [z6, z5, Nat.reduceLT, decide_true, cond_true, ins]
                rfl
              · simp only [z6, z5, Nat.reduceLT, decide_true, cond_true, ins]
                rfl)
           | (apply zl
              · simp only [z6, z5, Nat.reduceLT, decide_true, cond_true, ins]
                rfl))
        | ((first | apply ze | apply zf)
           · rfl
           · simp only [z6, z5, Nat.reduceLT, decide_true, cond_true, ins]
             rfl)
        | (apply zd
           · simp only [go_sem, Nat.reduceEqDiff])
        | (apply z8
           · simp only [go_sem, Nat.reduceEqDiff])
        | (apply zk
           · kernel_rfl
           · kernel_rfl)
        | (simp only [bW, if_true, Nat.reduceEqDiff, if_false])
      all_goals simp only [go_sem, Nat.reduceEqDiff, bP, Nat.reduceAdd, Nat.reduceLeDiff, List.length_map, Tryd.f49, zJ]
    | false =>
      refine zu (zn 49) cfn49 rfl (n := 34) rfl ?_
      simp only [bW, if_true, Nat.reduceEqDiff, if_false, zp]
      repeat' first
        | (intro hb; first | cases hb | skip)
        | ((first | apply z9 | apply zh)
           · rfl
           · simp (disch := assumption) only [go_sem, Nat.reduceEqDiff, Nat.reduceAdd, bP, zj, Nat.reduceLeDiff, Nat.reduceLT, Nat.reduceMul, List.length_append, decide_eq_true_eq, zc, z7, Int.reduceToNat, Int.reduceLE, Int.reduceLT, Int.reduceBNe, Int.reduceBEq, h71, h100, h101, whyD_one, pd_why]
             rfl
           · simp only [go_sem, Nat.reduceLT, Nat.reduceEqDiff]
             rfl
           · rfl
           first
           | (apply zg
              · simp only [z6, z5, Nat.reduceLT, decide_true, cond_true, ins]
                rfl
              · simp only [z6, z5, Nat.reduceLT, decide_true, cond_true, ins]
                rfl)
           | (apply zl
              · simp only [z6, z5, Nat.reduceLT, decide_true, cond_true, ins]
                rfl))
        | ((first | apply ze | apply zf)
           · rfl
           · simp only [z6, z5, Nat.reduceLT, decide_true, cond_true, ins]
             rfl)
        | (apply zd
           · simp only [go_sem, Nat.reduceEqDiff])
        | (apply z8
           · simp only [go_sem, Nat.reduceEqDiff])
        | (apply zk
           · kernel_rfl
           · kernel_rfl)
        | (simp only [bW, if_true, Nat.reduceEqDiff, if_false])
      all_goals simp only [go_sem, Nat.reduceEqDiff, bP, Nat.reduceAdd, Nat.reduceLeDiff, List.length_map, Tryd.f49, zJ]
  · rw [if_neg hk]
    have hne : (knownF p ax [s] != 0) = true := by simp [hk]
    refine zu (zn 49) cfn49 rfl (n := 34) rfl ?_
    simp only [bW, if_true, Nat.reduceEqDiff, if_false, zp]
    repeat' first
      | (intro hb; first | cases hb | skip)
      | ((first | apply z9 | apply zh)
         · rfl
         · simp (disch := assumption) only [go_sem, Nat.reduceEqDiff, Nat.reduceAdd, bP, zj, Nat.reduceLeDiff, Nat.reduceLT, Nat.reduceMul, List.length_append, decide_eq_true_eq, zc, z7, Int.reduceToNat, Int.reduceLE, Int.reduceLT, Int.reduceBNe, Int.reduceBEq, h71, hne]
           rfl
         · simp only [go_sem, Nat.reduceLT, Nat.reduceEqDiff]
           rfl
         · rfl
         first
         | (apply zg
            · simp only [z6, z5, Nat.reduceLT, decide_true, cond_true, ins]
              rfl
            · simp only [z6, z5, Nat.reduceLT, decide_true, cond_true, ins]
              rfl)
         | (apply zl
            · simp only [z6, z5, Nat.reduceLT, decide_true, cond_true, ins]
              rfl))
      | ((first | apply ze | apply zf)
         · rfl
         · simp only [z6, z5, Nat.reduceLT, decide_true, cond_true, ins]
           rfl)
      | (apply zd
         · simp only [go_sem, Nat.reduceEqDiff])
      | (apply z8
         · simp only [go_sem, Nat.reduceEqDiff])
      | (apply zk
         · kernel_rfl
         · kernel_rfl)
      | (simp only [bW, if_true, Nat.reduceEqDiff, if_false])
    all_goals try simp only [go_sem, Nat.reduceEqDiff, bP, Nat.reduceAdd, Nat.reduceLeDiff, List.length_map, Tryd.f49]
    all_goals first | done | rfl | (simp_all []; done) | trace_state


def eqW (x y : Reason) : Bool := (x.join == y.join) && ((x.at_ == y.at_) && (x.back == y.back))
def eqWs : List Reason → List Reason → Bool
  | [], [] => true
  | x :: a, y :: b => eqW x y && eqWs a b
  | _, _ => false
theorem L57_4 {F : Exit → St → Option D} (na nb : Bool) (sa sb : Nat) (a b : List Reason) (k : List Kt) (x : D) (hla : a.length ≤ 9223372036854775807) (hlen : a.length = b.length) (hna' : na = true → a = []) (hnb' : nb = true → b = []) (hsa : na = false → sa = 3) (hsb : nb = false → sb = 3) (hk : ∀ st, get st.tmps 4 = B false → zH cfg (lim cfg) 57 F k .ret st = some (B false)) : ∀ (ra rb : List Reason) (i : Nat), a.drop i = ra → b.drop i = rb → i ≤ a.length →
    (eqWs ra rb = true → zH cfg (lim cfg) 57 F k (.exit 0) ⟨26, [(14, B false), (0, .sl na (a.map encW) sa none), (1, .sl nb (b.map encW) sb none), (12, I a.length), (13, I (a.length : Nat))], [], 0, 0⟩ = some x) →
    (eqWs ra rb = false → x = B false) →
    EvL cfg (lim cfg) 57 F lp57_4 k ⟨26, [(0, .sl na (a.map encW) sa none), (1, .sl nb (b.map encW) sb none), (12, I a.length), (13, I (i : Nat))], [], 0, 0⟩ = some x := by
  intro ra
  induction ra with
  | nil =>
    intro rb i hd hdb hi h h'
    have hi' : i = a.length := by
      have := List.drop_eq_nil_iff.1 hd
      omega
    subst hi'
    have hrb : rb = [] := by rw [← hdb, List.drop_eq_nil_of_le (Nat.le_of_eq hlen.symm)]
    subst hrb
    refine zq ?_
    try dsimp only [lp57_4, zM, zy, Tryd.f57]
    simp only [bW, if_true, Nat.reduceEqDiff, if_false]
    repeat' first
      | (intro hb; first | cases hb | skip)
      | ((first | apply z9 | apply zh)
         · rfl
         · simp (disch := assumption) only [go_sem, Nat.reduceEqDiff, Nat.reduceAdd, bP, zj, Nat.reduceLeDiff, Nat.reduceLT, Nat.reduceMul, List.length_append, decide_eq_true_eq, zc, z7, Int.reduceToNat, Int.reduceLE, Int.reduceLT, Int.reduceBNe, Int.reduceBEq, Int.lt_irrefl]
           rfl
         · simp only [go_sem, Nat.reduceLT, Nat.reduceEqDiff]
           rfl
         · rfl
         first
         | (apply zg
            · simp only [z6, z5, Nat.reduceLT, decide_true, cond_true, ins]
              rfl
            · simp only [z6, z5, Nat.reduceLT, decide_true, cond_true, ins]
              rfl)
         | (apply zl
            · simp only [z6, z5, Nat.reduceLT, decide_true, cond_true, ins]
              rfl))
      | ((first | apply ze | apply zf)
         · rfl
         · simp only [z6, z5, Nat.reduceLT, decide_true, cond_true, ins]
           rfl)
      | (apply zd
         · simp only [go_sem, Nat.reduceEqDiff])
      | (apply z8
         · simp only [go_sem, Nat.reduceEqDiff])
      | (apply zk
         · kernel_rfl
         · kernel_rfl)
      | (simp only [bW, if_true, Nat.reduceEqDiff, if_false])
    exact h rfl
  | cons m ra ih =>
    intro rb i hd hdb hi h h'
    have hlt : i < a.length := by
      rcases Nat.lt_or_ge i a.length with h | h
      · exact h
      · rw [List.drop_eq_nil_of_le h] at hd; cases hd
    obtain ⟨m', rb', hrb⟩ : ∃ m' rb', rb = m' :: rb' := by
      cases rb with
      | nil => exact absurd (List.drop_eq_nil_iff.1 hdb) (by omega)
      | cons y r => exact ⟨y, r, rfl⟩
    subst hrb
    have hm : a[i]? = some m := by rw [← List.head?_drop, hd]; rfl
    have hmb : b[i]? = some m' := by rw [← List.head?_drop, hdb]; rfl
    have hxa : (a.map encW)[i]? = some (.agg [B m.join, I m.at_, B m.back]) := by rw [List.getElem?_map, hm]; rfl
    have hxb : (b.map encW)[i]? = some (.agg [B m'.join, I m'.at_, B m'.back]) := by rw [List.getElem?_map, hmb]; rfl
    have hna : na = false := by
      cases h : na with
      | false => rfl
      | true => rw [hna' h] at hlt; cases hlt
    have hnb : nb = false := by
      cases h : nb with
      | false => rfl
      | true => rw [hnb' h, List.length_nil] at hlen; omega
    have hsa1 := hsa hna
    have hsb1 := hsb hnb
    clear hsa hsb
    subst hsa1 hsb1
    have hlt' : (i : Int) < (a.length : Int) := by omega
    have hw3 : IntKind.i64.wrap ((i : Int) + 1) = ((i + 1 : Nat) : Int) := by rw [wrap_i64 (by omega) (by omega)]; omega
    refine zq ?_
    try dsimp only [lp57_4, zM, zy, Tryd.f57]
    simp only [bW, if_true, Nat.reduceEqDiff, if_false]
    repeat' first
      | (intro hb; first | cases hb | skip)
      | ((first | apply z9 | apply zh)
         · rfl
         · simp (disch := assumption) only [go_sem, Nat.reduceEqDiff, Nat.reduceAdd, bP, zj, Nat.reduceLeDiff, Nat.reduceLT, Nat.reduceMul, List.length_append, decide_eq_true_eq, zc, z7, Int.reduceToNat, Int.reduceLE, Int.reduceLT, Int.reduceBNe, Int.reduceBEq, hxa, hxb, hna, hnb, hlt', hw3]
           rfl
         · simp only [go_sem, Nat.reduceLT, Nat.reduceEqDiff]
           rfl
         · rfl
         first
         | (apply zg
            · simp only [z6, z5, Nat.reduceLT, decide_true, cond_true, ins]
              rfl
            · simp only [z6, z5, Nat.reduceLT, decide_true, cond_true, ins]
              rfl)
         | (apply zl
            · simp only [z6, z5, Nat.reduceLT, decide_true, cond_true, ins]
              rfl))
      | ((first | apply ze | apply zf)
         · rfl
         · simp only [z6, z5, Nat.reduceLT, decide_true, cond_true, ins]
           rfl)
      | (apply zd
         · simp only [go_sem, Nat.reduceEqDiff])
      | (apply z8
         · simp only [go_sem, Nat.reduceEqDiff])
      | (apply zk
         · kernel_rfl
         · kernel_rfl)
      | (simp only [bW, if_true, Nat.reduceEqDiff, if_false])
    · rw [h' (by simp only [Bool.and_true, Bool.not_eq_true'] at hb; simp only [eqWs, eqW, hb, Bool.false_and])]
      exact hk _ rfl
    · have he : eqW m m' = true := by simp only [Bool.and_true, Bool.not_eq_false'] at hb; exact hb
      simp only [eqWs, he, Bool.true_and] at h h'
      exact zG (st1 := ⟨26, [(0, .sl na (a.map encW) 3 none), (1, .sl nb (b.map encW) 3 none), (12, I a.length), (13, I (i + 1 : Nat))], [], 0, 0⟩) lk57_4 (by kernel_rfl) (ih rb' (i + 1) (by rw [← List.drop_drop, hd]; rfl) (by rw [← List.drop_drop, hdb]; rfl) hlt h h')
theorem t57 (na nb : Bool) (sa sb : Nat) (a b : List Reason) (hla : a.length ≤ 9223372036854775807) (hlb : b.length ≤ 9223372036854775807) (hna : na = true → a = []) (hnb : nb = true → b = []) (hsa : na = false → sa = 3) (hsb : nb = false → sb = 3) : (lim cfg).pure 57 [.sl na (a.map encW) sa none, .sl nb (b.map encW) sb none] = some (B (eqWs a b)) := by
  have ha := len_if (f := encW) hna
  have hb' := len_if (f := encW) hnb
  have hcast : ((a.length : Int) != (b.length : Int)) = !decide (a.length = b.length) := by
    by_cases h : a.length = b.length <;> simp [h]
    omega
  by_cases hl : a.length = b.length
  · have hd : decide (a.length = b.length) = true := by simp [hl]
    refine zu (zn 57) cfn57 rfl (n := 26) rfl ?_
    generalize hF : finP cfg Tryd.f57 = F
    simp only [bW, if_true, Nat.reduceEqDiff, if_false, zp]
    repeat' first
      | (intro hb; first | cases hb | skip)
      | ((first | apply z9 | apply zh)
         · rfl
         · simp (disch := assumption) only [go_sem, Nat.reduceEqDiff, Nat.reduceAdd, bP, zj, Nat.reduceLeDiff, Nat.reduceLT, Nat.reduceMul, List.length_append, decide_eq_true_eq, zc, z7, Int.reduceToNat, Int.reduceLE, Int.reduceLT, Int.reduceBNe, Int.reduceBEq, ha, hb', hcast, hd]
           rfl
         · simp only [go_sem, Nat.reduceLT, Nat.reduceEqDiff]
           rfl
         · rfl
         first
         | (apply zg
            · simp only [z6, z5, Nat.reduceLT, decide_true, cond_true, ins]
              rfl
            · simp only [z6, z5, Nat.reduceLT, decide_true, cond_true, ins]
              rfl)
         | (apply zl
            · simp only [z6, z5, Nat.reduceLT, decide_true, cond_true, ins]
              rfl))
      | ((first | apply ze | apply zf)
         · rfl
         · simp only [z6, z5, Nat.reduceLT, decide_true, cond_true, ins]
           rfl)
      | (apply zd
         · simp only [go_sem, Nat.reduceEqDiff])
      | (apply z8
         · simp only [go_sem, Nat.reduceEqDiff])
      | (apply zk
         · kernel_rfl
         · kernel_rfl)
      | (simp only [bW, if_true, Nat.reduceEqDiff, if_false])
    have hend : ∀ v st, get st.tmps 4 = B v → F .ret st = some (B v) := by
      intro v st hd
      subst hF
      simp only [go_sem, Nat.reduceEqDiff, bP, Nat.reduceAdd, Nat.reduceLeDiff, List.length_map, Tryd.f57, hd]
    refine w_loop (st1 := ⟨26, [(0, .sl na (a.map encW) sa none), (1, .sl nb (b.map encW) sb none), (12, I a.length), (13, I (0 : Nat))], [], 0, 0⟩) lk57_4 (by kernel_rfl) (L57_4 na nb sa sb a b _ _ hla hl hna hnb hsa hsb (fun st hd => ?_) a b 0 rfl rfl (Nat.zero_le _) (fun he => ?_) (fun he => by rw [he]))
    · simp only [bW, if_true, Nat.reduceEqDiff, if_false]
      exact hend false st hd
    · rw [he]
      simp only [bW, if_true, Nat.reduceEqDiff, if_false]
      repeat' first
        | (intro hb; first | cases hb | skip)
        | ((first | apply z9 | apply zh)
           · rfl
           · simp (disch := assumption) only [go_sem, Nat.reduceEqDiff, Nat.reduceAdd, bP, zj, Nat.reduceLeDiff, Nat.reduceLT, Nat.reduceMul, List.length_append, decide_eq_true_eq, zc, z7, Int.reduceToNat, Int.reduceLE, Int.reduceLT, Int.reduceBNe, Int.reduceBEq]
             rfl
           · simp only [go_sem, Nat.reduceLT, Nat.reduceEqDiff]
             rfl
           · rfl
           first
           | (apply zg
              · simp only [z6, z5, Nat.reduceLT, decide_true, cond_true, ins]
                rfl
              · simp only [z6, z5, Nat.reduceLT, decide_true, cond_true, ins]
                rfl)
           | (apply zl
              · simp only [z6, z5, Nat.reduceLT, decide_true, cond_true, ins]
                rfl))
        | ((first | apply ze | apply zf)
           · rfl
           · simp only [z6, z5, Nat.reduceLT, decide_true, cond_true, ins]
             rfl)
        | (apply zd
           · simp only [go_sem, Nat.reduceEqDiff])
        | (apply z8
           · simp only [go_sem, Nat.reduceEqDiff])
        | (apply zk
           · kernel_rfl
           · kernel_rfl)
        | (simp only [bW, if_true, Nat.reduceEqDiff, if_false])
      exact hend true _ rfl
  · have hd : decide (a.length = b.length) = false := by simp [hl]
    have hf : eqWs a b = false := by
      have key : ∀ (a b : List Reason), eqWs a b = true → a.length = b.length := by
        intro a
        induction a with
        | nil => intro b h; cases b with
          | nil => rfl
          | cons y b => simp [eqWs] at h
        | cons y a ih => intro b h; cases b with
          | nil => simp [eqWs] at h
          | cons z b => simp [eqWs] at h; simp [ih b h.2]
      cases h : eqWs a b with
      | false => rfl
      | true => exact absurd (key a b h) hl
    rw [hf]
    refine zu (zn 57) cfn57 rfl (n := 26) rfl ?_
    simp only [bW, if_true, Nat.reduceEqDiff, if_false, zp]
    repeat' first
      | (intro hb; first | cases hb | skip)
      | ((first | apply z9 | apply zh)
         · rfl
         · simp (disch := assumption) only [go_sem, Nat.reduceEqDiff, Nat.reduceAdd, bP, zj, Nat.reduceLeDiff, Nat.reduceLT, Nat.reduceMul, List.length_append, decide_eq_true_eq, zc, z7, Int.reduceToNat, Int.reduceLE, Int.reduceLT, Int.reduceBNe, Int.reduceBEq, ha, hb', hcast, hd]
           rfl
         · simp only [go_sem, Nat.reduceLT, Nat.reduceEqDiff]
           rfl
         · rfl
         first
         | (apply zg
            · simp only [z6, z5, Nat.reduceLT, decide_true, cond_true, ins]
              rfl
            · simp only [z6, z5, Nat.reduceLT, decide_true, cond_true, ins]
              rfl)
         | (apply zl
            · simp only [z6, z5, Nat.reduceLT, decide_true, cond_true, ins]
              rfl))
      | ((first | apply ze | apply zf)
         · rfl
         · simp only [z6, z5, Nat.reduceLT, decide_true, cond_true, ins]
           rfl)
      | (apply zd
         · simp only [go_sem, Nat.reduceEqDiff])
      | (apply z8
         · simp only [go_sem, Nat.reduceEqDiff])
      | (apply zk
         · kernel_rfl
         · kernel_rfl)
      | (simp only [bW, if_true, Nat.reduceEqDiff, if_false])
    all_goals try simp only [go_sem, Nat.reduceEqDiff, bP, Nat.reduceAdd, Nat.reduceLeDiff, List.length_map, Tryd.f57]
    all_goals first | done | rfl | (simp_all []; done) | trace_state


end Go.VS
namespace Go.VS
open Go Go.Proofs
set_option maxHeartbeats 0
set_option linter.unusedSimpArgs false

noncomputable def lp18_7 : Code := zM [1, 1, 1, 0, 1, 0, 0] (zy Tryd.f18)
theorem lk18_7 : cfg.keep 18 (zA lp18_7) = [2, 3, 24, 25, 26] := by kernel_rfl
noncomputable def lp18_13 : Code := zM [1, 1, 1, 1, 0, 1, 0, 0] (zy Tryd.f18)
theorem lk18_13 : cfg.keep 18 (zA lp18_13) = [2, 3, 41] := by kernel_rfl
noncomputable def lp18_17 : Code := zM [1, 1, 1, 1, 0, 1, 0, 0, 1, 1, 0, 0, 1, 1, 1, 0, 0] (zy Tryd.f18)
theorem lk18_17 : cfg.keep 18 (zA lp18_17) = [2, 3, 9, 41, 47, 48, 49] := by kernel_rfl

def axF (f : F4) (ax : Int) : Ratio := if ax = 0 then ⟨f.xn, f.xd⟩ else ⟨f.yn, f.yd⟩
def zB (fs : List F4) (ax node : Int) : Ratio := if node = 0 then one1 else match fs[(node - 1).toNat]? with | some f => axF f ax | none => one1
def f4OK (f : F4) : Bool := ratioOK ⟨f.xn, f.xd⟩ && ratioOK ⟨f.yn, f.yd⟩
/-- What an edge asks of factors. -/
def edgeFine (fs : List F4) (ax : Int) (e : Edge) : Bool := decide ((zB fs ax e.src).n * e.q.d * (zB fs ax e.dst).d ≤ e.q.n * (zB fs ax e.dst).n * (zB fs ax e.src).d)
def factorsFine (p : Paper) (fs : List F4) (ax : Int) : Bool := (zx p ax).all (edgeFine fs ax)
def checkFF (p : Paper) (fs : List F4) : Int := if zr p then (if (fs.length : Int) = p.sheets ∧ fs.all f4OK = true then (if factorsFine p fs 0 && factorsFine p fs 1 then 0 else 31) else 1) else 30
theorem factor_ok {fs : List F4} {ax node : Int} (h : fs.all f4OK = true) : ratioOK (zB fs ax node) = true := by
  unfold zB
  split
  · rfl
  · split
    · rename_i f hf
      have := List.all_eq_true.1 h f (List.mem_of_getElem? hf)
      simp only [f4OK, Bool.and_eq_true] at this
      unfold axF
      split
      · exact this.1
      · exact this.2
    · rfl
theorem t66'' (n d : Int) : (lim cfg).pure 66 [.agg [I n, I d]] = some (B (ratioOK ⟨n, d⟩)) := t66 n d

theorem t67_0 (fs : List F4) (nf : Bool) (sf : Nat) (node : Int) (hnf : nf = true → fs = []) (hsf : nf = false → sf = 4) (h0 : 0 ≤ node) (h1 : node ≤ fs.length) (hl : fs.length ≤ 1000) : (lim cfg).pure 67 [I node, .ptr (.sl nf (fs.map encF) sf none), .ptr (I 0)] = some (encR (zB fs 0 node)) := by
  by_cases hz : node = 0
  · have hb : (node == 0) = true := by simp [hz]
    rw [show zB fs 0 node = one1 by simp [zB, hz]]
    refine zu (zn 67) cfn67 rfl (n := 15) rfl ?_
    simp only [bW, if_true, Nat.reduceEqDiff, if_false, zp]
    repeat' first
      | (intro hb; first | cases hb | skip)
      | ((first | apply z9 | apply zh)
         · rfl
         · simp (disch := assumption) only [go_sem, Nat.reduceEqDiff, Nat.reduceAdd, bP, zj, Nat.reduceLeDiff, Nat.reduceLT, Nat.reduceMul, List.length_append, decide_eq_true_eq, zc, z7, Int.reduceToNat, Int.reduceLE, Int.reduceLT, Int.reduceBNe, Int.reduceBEq, hb, cfg_glob0]
           rfl
         · simp only [go_sem, Nat.reduceLT, Nat.reduceEqDiff]
           rfl
         · rfl
         first
         | (apply zg
            · simp only [z6, z5, Nat.reduceLT, decide_true, cond_true, ins]
              rfl
            · simp only [z6, z5, Nat.reduceLT, decide_true, cond_true, ins]
              rfl)
         | (apply zl
            · simp only [z6, z5, Nat.reduceLT, decide_true, cond_true, ins]
              rfl))
      | ((first | apply ze | apply zf)
         · rfl
         · simp only [z6, z5, Nat.reduceLT, decide_true, cond_true, ins]
           rfl)
      | (apply zd
         · simp only [go_sem, Nat.reduceEqDiff])
      | (apply z8
         · simp only [go_sem, Nat.reduceEqDiff])
      | (apply zk
         · kernel_rfl
         · kernel_rfl)
      | (simp only [bW, if_true, Nat.reduceEqDiff, if_false])
    all_goals try simp only [go_sem, Nat.reduceEqDiff, bP, Nat.reduceAdd, Nat.reduceLeDiff, List.length_map, Tryd.f67]
    all_goals first | done | rfl | (simp_all []; done) | trace_state
  · have hb : (node == 0) = false := by simp [hz]
    obtain ⟨N, hN⟩ := Int.eq_ofNat_of_zero_le (show 0 ≤ node - 1 by omega)
    have hw : IntKind.i64.wrap (node - 1) = (N : Int) := by rw [wrap_i64 (by omega) (by omega), hN]
    have hlt : N < fs.length := by omega
    have hnf' : nf = false := by
      cases h : nf with
      | false => rfl
      | true => rw [hnf h] at hlt; cases hlt
    have hs1 := hsf hnf'
    clear hsf
    subst hs1
    obtain ⟨f, hf⟩ : ∃ f, fs[N]? = some f := ⟨_, List.getElem?_eq_getElem hlt⟩
    have hx : (fs.map encF)[N]? = some (.agg [I f.xn, I f.xd, I f.yn, I f.yd]) := by rw [List.getElem?_map, hf]; rfl
    have e : zB fs 0 node = axF f 0 := by
      unfold zB
      rw [if_neg hz, show (node - 1).toNat = N by rw [hN]; rfl, hf]
    rw [e]
    refine zu (zn 67) cfn67 rfl (n := 15) rfl ?_
    simp only [bW, if_true, Nat.reduceEqDiff, if_false, zp]
    repeat' first
      | (intro hb; first | cases hb | skip)
      | ((first | apply z9 | apply zh)
         · rfl
         · simp (disch := assumption) only [go_sem, Nat.reduceEqDiff, Nat.reduceAdd, bP, zj, Nat.reduceLeDiff, Nat.reduceLT, Nat.reduceMul, List.length_append, decide_eq_true_eq, zc, z7, Int.reduceToNat, Int.reduceLE, Int.reduceLT, Int.reduceBNe, Int.reduceBEq, hb, hw, hx, hnf', show (0 : Nat) < 2 from by decide, show (1 : Nat) < 2 from by decide]
           rfl
         · simp only [go_sem, Nat.reduceLT, Nat.reduceEqDiff]
           rfl
         · rfl
         first
         | (apply zg
            · simp only [z6, z5, Nat.reduceLT, decide_true, cond_true, ins]
              rfl
            · simp only [z6, z5, Nat.reduceLT, decide_true, cond_true, ins]
              rfl)
         | (apply zl
            · simp only [z6, z5, Nat.reduceLT, decide_true, cond_true, ins]
              rfl))
      | ((first | apply ze | apply zf)
         · rfl
         · simp only [z6, z5, Nat.reduceLT, decide_true, cond_true, ins]
           rfl)
      | (apply zd
         · simp only [go_sem, Nat.reduceEqDiff])
      | (apply z8
         · simp only [go_sem, Nat.reduceEqDiff])
      | (apply zk
         · kernel_rfl
         · kernel_rfl)
      | (simp only [bW, if_true, Nat.reduceEqDiff, if_false])
    all_goals try simp only [go_sem, Nat.reduceEqDiff, bP, Nat.reduceAdd, Nat.reduceLeDiff, List.length_map, Tryd.f67, axF]
    all_goals first | done | rfl | (simp_all []; done) | trace_state

theorem t67_1 (fs : List F4) (nf : Bool) (sf : Nat) (node : Int) (hnf : nf = true → fs = []) (hsf : nf = false → sf = 4) (h0 : 0 ≤ node) (h1 : node ≤ fs.length) (hl : fs.length ≤ 1000) : (lim cfg).pure 67 [I node, .ptr (.sl nf (fs.map encF) sf none), .ptr (I 1)] = some (encR (zB fs 1 node)) := by
  by_cases hz : node = 0
  · have hb : (node == 0) = true := by simp [hz]
    rw [show zB fs 1 node = one1 by simp [zB, hz]]
    refine zu (zn 67) cfn67 rfl (n := 15) rfl ?_
    simp only [bW, if_true, Nat.reduceEqDiff, if_false, zp]
    repeat' first
      | (intro hb; first | cases hb | skip)
      | ((first | apply z9 | apply zh)
         · rfl
         · simp (disch := assumption) only [go_sem, Nat.reduceEqDiff, Nat.reduceAdd, bP, zj, Nat.reduceLeDiff, Nat.reduceLT, Nat.reduceMul, List.length_append, decide_eq_true_eq, zc, z7, Int.reduceToNat, Int.reduceLE, Int.reduceLT, Int.reduceBNe, Int.reduceBEq, hb, cfg_glob0]
           rfl
         · simp only [go_sem, Nat.reduceLT, Nat.reduceEqDiff]
           rfl
         · rfl
         first
         | (apply zg
            · simp only [z6, z5, Nat.reduceLT, decide_true, cond_true, ins]
              rfl
            · simp only [z6, z5, Nat.reduceLT, decide_true, cond_true, ins]
              rfl)
         | (apply zl
            · simp only [z6, z5, Nat.reduceLT, decide_true, cond_true, ins]
              rfl))
      | ((first | apply ze | apply zf)
         · rfl
         · simp only [z6, z5, Nat.reduceLT, decide_true, cond_true, ins]
           rfl)
      | (apply zd
         · simp only [go_sem, Nat.reduceEqDiff])
      | (apply z8
         · simp only [go_sem, Nat.reduceEqDiff])
      | (apply zk
         · kernel_rfl
         · kernel_rfl)
      | (simp only [bW, if_true, Nat.reduceEqDiff, if_false])
    all_goals try simp only [go_sem, Nat.reduceEqDiff, bP, Nat.reduceAdd, Nat.reduceLeDiff, List.length_map, Tryd.f67]
    all_goals first | done | rfl | (simp_all []; done) | trace_state
  · have hb : (node == 0) = false := by simp [hz]
    obtain ⟨N, hN⟩ := Int.eq_ofNat_of_zero_le (show 0 ≤ node - 1 by omega)
    have hw : IntKind.i64.wrap (node - 1) = (N : Int) := by rw [wrap_i64 (by omega) (by omega), hN]
    have hlt : N < fs.length := by omega
    have hnf' : nf = false := by
      cases h : nf with
      | false => rfl
      | true => rw [hnf h] at hlt; cases hlt
    have hs1 := hsf hnf'
    clear hsf
    subst hs1
    obtain ⟨f, hf⟩ : ∃ f, fs[N]? = some f := ⟨_, List.getElem?_eq_getElem hlt⟩
    have hx : (fs.map encF)[N]? = some (.agg [I f.xn, I f.xd, I f.yn, I f.yd]) := by rw [List.getElem?_map, hf]; rfl
    have e : zB fs 1 node = axF f 1 := by
      unfold zB
      rw [if_neg hz, show (node - 1).toNat = N by rw [hN]; rfl, hf]
    rw [e]
    refine zu (zn 67) cfn67 rfl (n := 15) rfl ?_
    simp only [bW, if_true, Nat.reduceEqDiff, if_false, zp]
    repeat' first
      | (intro hb; first | cases hb | skip)
      | ((first | apply z9 | apply zh)
         · rfl
         · simp (disch := assumption) only [go_sem, Nat.reduceEqDiff, Nat.reduceAdd, bP, zj, Nat.reduceLeDiff, Nat.reduceLT, Nat.reduceMul, List.length_append, decide_eq_true_eq, zc, z7, Int.reduceToNat, Int.reduceLE, Int.reduceLT, Int.reduceBNe, Int.reduceBEq, hb, hw, hx, hnf', show (0 : Nat) < 2 from by decide, show (1 : Nat) < 2 from by decide]
           rfl
         · simp only [go_sem, Nat.reduceLT, Nat.reduceEqDiff]
           rfl
         · rfl
         first
         | (apply zg
            · simp only [z6, z5, Nat.reduceLT, decide_true, cond_true, ins]
              rfl
            · simp only [z6, z5, Nat.reduceLT, decide_true, cond_true, ins]
              rfl)
         | (apply zl
            · simp only [z6, z5, Nat.reduceLT, decide_true, cond_true, ins]
              rfl))
      | ((first | apply ze | apply zf)
         · rfl
         · simp only [z6, z5, Nat.reduceLT, decide_true, cond_true, ins]
           rfl)
      | (apply zd
         · simp only [go_sem, Nat.reduceEqDiff])
      | (apply z8
         · simp only [go_sem, Nat.reduceEqDiff])
      | (apply zk
         · kernel_rfl
         · kernel_rfl)
      | (simp only [bW, if_true, Nat.reduceEqDiff, if_false])
    all_goals try simp only [go_sem, Nat.reduceEqDiff, bP, Nat.reduceAdd, Nat.reduceLeDiff, List.length_map, Tryd.f67, axF]
    all_goals first | done | rfl | (simp_all []; done) | trace_state

theorem L18_7 {F : Exit → St → Option D} (p : Paper) (fs : List F4) (nf : Bool) (sf : Nat) (k : List Kt) (x : D) (hnf : nf = true → fs = []) (hsf : nf = false → sf = 4) (hl : fs.length ≤ 9223372036854775807) (hk : ∀ st, get st.tmps 4 = I 1 → zH cfg (lim cfg) 18 F k .ret st = some (I 1)) : ∀ (rest : List F4) (i : Nat), fs.drop i = rest → i ≤ fs.length →
    (rest.all f4OK = true → zH cfg (lim cfg) 18 F k (.exit 0) ⟨83, [(27, B false), (2, .lref 0 0 3 0), (3, .lref 1 0 1 0), (24, .sl nf (fs.map encF) sf none), (25, I fs.length), (26, I (fs.length : Nat))], [(0, ⟨[zN p], 3, false⟩), (1, ⟨[.sl nf (fs.map encF) sf none], 1, false⟩)], 2, 0⟩ = some x) →
    (rest.all f4OK = false → x = I 1) →
    EvL cfg (lim cfg) 18 F lp18_7 k ⟨83, [(2, .lref 0 0 3 0), (3, .lref 1 0 1 0), (24, .sl nf (fs.map encF) sf none), (25, I fs.length), (26, I (i : Nat))], [(0, ⟨[zN p], 3, false⟩), (1, ⟨[.sl nf (fs.map encF) sf none], 1, false⟩)], 2, 0⟩ = some x := by
  intro rest
  induction rest with
  | nil =>
    intro i hd hi h h'
    have hi' : i = fs.length := by
      have := List.drop_eq_nil_iff.1 hd
      omega
    subst hi'
    refine zq ?_
    try dsimp only [lp18_7, zM, zy, Tryd.f18]
    simp only [bW, if_true, Nat.reduceEqDiff, if_false]
    repeat' first
      | (intro hb; first | cases hb | skip)
      | ((first | apply z9 | apply zh)
         · rfl
         · simp (disch := assumption) only [go_sem, Nat.reduceEqDiff, Nat.reduceAdd, bP, zj, Nat.reduceLeDiff, Nat.reduceLT, Nat.reduceMul, List.length_append, decide_eq_true_eq, zc, z7, Int.reduceToNat, Int.reduceLE, Int.reduceLT, Int.reduceBNe, Int.reduceBEq, Int.lt_irrefl]
           rfl
         · simp only [go_sem, Nat.reduceLT, Nat.reduceEqDiff]
           rfl
         · rfl
         first
         | (apply zg
            · simp only [z6, z5, Nat.reduceLT, decide_true, cond_true, ins]
              rfl
            · simp only [z6, z5, Nat.reduceLT, decide_true, cond_true, ins]
              rfl)
         | (apply zl
            · simp only [z6, z5, Nat.reduceLT, decide_true, cond_true, ins]
              rfl))
      | ((first | apply ze | apply zf)
         · rfl
         · simp only [z6, z5, Nat.reduceLT, decide_true, cond_true, ins]
           rfl)
      | (apply zd
         · simp only [go_sem, Nat.reduceEqDiff])
      | (apply z8
         · simp only [go_sem, Nat.reduceEqDiff])
      | (apply zk
         · kernel_rfl
         · kernel_rfl)
      | (simp only [bW, if_true, Nat.reduceEqDiff, if_false])
    exact h rfl
  | cons f rest ih =>
    intro i hd hi h h'
    have hlt : i < fs.length := by
      rcases Nat.lt_or_ge i fs.length with h | h
      · exact h
      · rw [List.drop_eq_nil_of_le h] at hd; cases hd
    have hf : fs[i]? = some f := by rw [← List.head?_drop, hd]; rfl
    have hx : (fs.map encF)[i]? = some (.agg [I f.xn, I f.xd, I f.yn, I f.yd]) := by rw [List.getElem?_map, hf]; rfl
    have hnf' : nf = false := by
      cases h : nf with
      | false => rfl
      | true => rw [hnf h] at hlt; cases hlt
    have hs1 := hsf hnf'
    clear hsf
    subst hs1
    have hlt' : (i : Int) < (fs.length : Int) := by omega
    have hw3 : IntKind.i64.wrap ((i : Int) + 1) = ((i + 1 : Nat) : Int) := by rw [wrap_i64 (by omega) (by omega)]; omega
    refine zq ?_
    try dsimp only [lp18_7, zM, zy, Tryd.f18]
    simp only [bW, if_true, Nat.reduceEqDiff, if_false]
    repeat' first
      | (intro hb; first | cases hb | skip)
      | ((first | apply z9 | apply zh)
         · rfl
         · simp (disch := assumption) only [go_sem, Nat.reduceEqDiff, Nat.reduceAdd, bP, zj, Nat.reduceLeDiff, Nat.reduceLT, Nat.reduceMul, List.length_append, decide_eq_true_eq, zc, z7, Int.reduceToNat, Int.reduceLE, Int.reduceLT, Int.reduceBNe, Int.reduceBEq, hx, hnf', hlt', hw3, t66'', show (0 : Nat) < 2 from by decide, show (1 : Nat) < 2 from by decide]
           rfl
         · simp only [go_sem, Nat.reduceLT, Nat.reduceEqDiff]
           rfl
         · rfl
         first
         | (apply zg
            · simp only [z6, z5, Nat.reduceLT, decide_true, cond_true, ins]
              rfl
            · simp only [z6, z5, Nat.reduceLT, decide_true, cond_true, ins]
              rfl)
         | (apply zl
            · simp only [z6, z5, Nat.reduceLT, decide_true, cond_true, ins]
              rfl))
      | ((first | apply ze | apply zf)
         · rfl
         · simp only [z6, z5, Nat.reduceLT, decide_true, cond_true, ins]
           rfl)
      | (apply zd
         · simp only [go_sem, Nat.reduceEqDiff])
      | (apply z8
         · simp only [go_sem, Nat.reduceEqDiff])
      | (apply zk
         · kernel_rfl
         · kernel_rfl)
      | (simp only [bW, if_true, Nat.reduceEqDiff, if_false])
    all_goals first
    | (have hx0 := h' (by simp_all [f4OK])
       rw [hx0]; exact hk _ rfl)
    | exact zG (st1 := ⟨83, [(2, .lref 0 0 3 0), (3, .lref 1 0 1 0), (24, .sl nf (fs.map encF) 4 none), (25, I fs.length), (26, I (i + 1 : Nat))], [(0, ⟨[zN p], 3, false⟩), (1, ⟨[.sl nf (fs.map encF) 4 none], 1, false⟩)], 2, 0⟩) lk18_7 (by kernel_rfl) (ih (i + 1) (by rw [← List.drop_drop, hd]; rfl) hlt (fun ha => h (by simp_all [f4OK])) (fun ha => h' (by simp_all [f4OK])))
theorem edges_sheets {p : Paper} (hok : zr p = true) (ax : Int) : ∀ e ∈ zx p ax, 0 ≤ e.src ∧ e.src ≤ p.sheets ∧ 0 ≤ e.dst ∧ e.dst ≤ p.sheets := by
  obtain ⟨o1, o2, o3, o4, o5, o6⟩ := zD hok
  intro e he
  simp only [zx, List.mem_append, List.mem_flatMap, List.mem_range'_1] at he
  rcases he with (⟨i, hi, he⟩ | he) | he
  · simp [sheetE] at he
    rcases he with rfl | rfl <;> simp only [] <;> omega
  · obtain ⟨m, k, h1, _, h2⟩ := marksE_mem ax he
    have := o5 m h1
    simp [markOK, zz] at this
    simp [markE] at h2
    rcases h2 with rfl | rfl <;> simp only [] <;> omega
  · obtain ⟨m, k, h1, _, h2⟩ := joinsE_mem ax he
    have := o6 m h1
    simp [joinOK, zz] at this
    simp [joinE] at h2
    rcases h2 with rfl | rfl <;> simp only [] <;> omega
theorem cmp_gt (a b : Int) : decide (cmpI a b > 0) = decide (b < a) := by
  unfold cmpI
  split
  · rename_i h; simp [h]
  · split <;> rename_i h <;> simp <;> omega

theorem L18_17_0 {F : Exit → St → Option D} (p : Paper) (fs : List F4) (nf : Bool) (sf : Nat) (es : List Edge) (k : List Kt) (x : D) (hnf : nf = true → fs = []) (hsf : nf = false → sf = 4) (hfs : fs.all f4OK = true) (hl : fs.length ≤ 4) (hes : ∀ e ∈ es, edgeB e ∧ e.src ≤ fs.length ∧ e.dst ≤ fs.length) (hlen : es.length ≤ 1000) (hk : ∀ st, get st.tmps 4 = I 31 → zH cfg (lim cfg) 18 F k .ret st = some (I 31)) : ∀ (rest : List Edge) (i : Nat), es.drop i = rest → i ≤ es.length →
    (rest.all (edgeFine fs 0) = true → zH cfg (lim cfg) 18 F k (.exit 4) ⟨83, [(50, B false), (2, .lref 0 0 3 0), (3, .lref 1 0 1 0), (9, .fn (.func 67) [] [.lref 1 0 1 0, .lref 2 0 1 0]), (41, I 0), (47, .sl false (es.map zP) 7 none), (48, I es.length), (49, I (es.length : Nat))], [(0, ⟨[zN p], 3, false⟩), (1, ⟨[.sl nf (fs.map encF) sf none], 1, false⟩), (2, ⟨[I 0], 1, false⟩)], 3, 0⟩ = some x) →
    (rest.all (edgeFine fs 0) = false → x = I 31) →
    EvL cfg (lim cfg) 18 F lp18_17 k ⟨83, [(2, .lref 0 0 3 0), (3, .lref 1 0 1 0), (9, .fn (.func 67) [] [.lref 1 0 1 0, .lref 2 0 1 0]), (41, I 0), (47, .sl false (es.map zP) 7 none), (48, I es.length), (49, I (i : Nat))], [(0, ⟨[zN p], 3, false⟩), (1, ⟨[.sl nf (fs.map encF) sf none], 1, false⟩), (2, ⟨[I 0], 1, false⟩)], 3, 0⟩ = some x := by
  intro rest
  induction rest with
  | nil =>
    intro i hd hi h h'
    have hi' : i = es.length := by
      have := List.drop_eq_nil_iff.1 hd
      omega
    subst hi'
    refine zq ?_
    try dsimp only [lp18_17, zM, zy, Tryd.f18]
    simp only [bW, if_true, Nat.reduceEqDiff, if_false]
    repeat' first
      | (intro hb; first | cases hb | skip)
      | ((first | apply z9 | apply zh)
         · rfl
         · simp (disch := assumption) only [go_sem, Nat.reduceEqDiff, Nat.reduceAdd, bP, zj, Nat.reduceLeDiff, Nat.reduceLT, Nat.reduceMul, List.length_append, decide_eq_true_eq, zc, z7, Int.reduceToNat, Int.reduceLE, Int.reduceLT, Int.reduceBNe, Int.reduceBEq, Int.lt_irrefl]
           rfl
         · simp only [go_sem, Nat.reduceLT, Nat.reduceEqDiff]
           rfl
         · rfl
         first
         | (apply zg
            · simp only [z6, z5, Nat.reduceLT, decide_true, cond_true, ins]
              rfl
            · simp only [z6, z5, Nat.reduceLT, decide_true, cond_true, ins]
              rfl)
         | (apply zl
            · simp only [z6, z5, Nat.reduceLT, decide_true, cond_true, ins]
              rfl))
      | ((first | apply ze | apply zf)
         · rfl
         · simp only [z6, z5, Nat.reduceLT, decide_true, cond_true, ins]
           rfl)
      | (apply zd
         · simp only [go_sem, Nat.reduceEqDiff])
      | (apply z8
         · simp only [go_sem, Nat.reduceEqDiff])
      | (apply zk
         · kernel_rfl
         · kernel_rfl)
      | (simp only [bW, if_true, Nat.reduceEqDiff, if_false])
    exact h rfl
  | cons e rest ih =>
    intro i hd hi h h'
    have hlt : i < es.length := by
      rcases Nat.lt_or_ge i es.length with h | h
      · exact h
      · rw [List.drop_eq_nil_of_le h] at hd; cases hd
    have hm : es[i]? = some e := by rw [← List.head?_drop, hd]; rfl
    obtain ⟨⟨e1, e2, e3, e4, e5, e6, e7, e8⟩, e9, e10⟩ := hes e (List.mem_of_getElem? hm)
    have hx : (es.map zP)[i]? = some (.agg [I e.src, I e.dst, I e.q.n, I e.q.d, B e.why.join, I e.why.at_, B e.why.back]) := by rw [List.getElem?_map, hm]; rfl
    have hlt' : (i : Int) < (es.length : Int) := by omega
    have hw3 : IntKind.i64.wrap ((i : Int) + 1) = ((i + 1 : Nat) : Int) := by rw [wrap_i64 (by omega) (by omega)]; omega
    have h67a := t67_0 fs nf sf e.src hnf hsf e1 e9 (by omega)
    have h67b := t67_0 fs nf sf e.dst hnf hsf e3 e10 (by omega)
    have hfa := factor_ok (ax := 0) (node := e.src) hfs
    have hfb := factor_ok (ax := 0) (node := e.dst) hfs
    have hgd : edgeFine fs 0 e = decide ((zB fs 0 e.src).n * e.q.d * (zB fs 0 e.dst).d ≤ e.q.n * (zB fs 0 e.dst).n * (zB fs 0 e.src).d) := rfl
    generalize zB fs 0 e.src = fa at *
    generalize zB fs 0 e.dst = fb at *
    simp only [ratioOK, Bool.and_eq_true, decide_eq_true_eq] at hfa hfb
    obtain ⟨⟨⟨a1, a2⟩, a3⟩, a4⟩ := hfa
    obtain ⟨⟨⟨b1, b2⟩, b3⟩, b4⟩ := hfb
    have m1 := Int.mul_le_mul a2 e8 (by omega) (by omega)
    have m1' := Int.mul_le_mul a1 e7 (by omega) (by omega)
    have m2 := Int.mul_le_mul e6 b2 (by omega) (by omega)
    have m2' := Int.mul_le_mul e5 b1 (by omega) (by omega)
    have hwa : IntKind.i64.wrap (fa.n * e.q.d) = fa.n * e.q.d := wrap_i64 (by omega) (by omega)
    have hwb : IntKind.i64.wrap (e.q.n * fb.n) = e.q.n * fb.n := wrap_i64 (by omega) (by omega)
    have h69a := t69 (fa.n * e.q.d) fb.d (by omega) (by omega) (by omega) (by omega)
    have h69b := t69 (e.q.n * fb.n) fa.d (by omega) (by omega) (by omega) (by omega)
    have h70 := t70 (hi64 (fa.n * e.q.d) fb.d) (lo64 (fa.n * e.q.d) fb.d) (hi64 (e.q.n * fb.n) fa.d) (lo64 (e.q.n * fb.n) fa.d)
    rw [cmp_of (Int.mul_nonneg (by omega) (by omega)) (Int.mul_nonneg (by omega) (by omega))] at h70
    have hg : decide (cmpI (fa.n * e.q.d * fb.d) (e.q.n * fb.n * fa.d) > 0) = !(edgeFine fs 0 e) := by
      rw [cmp_gt, hgd]
      by_cases hc : fa.n * e.q.d * fb.d ≤ e.q.n * fb.n * fa.d
      · have : ¬ (e.q.n * fb.n * fa.d < fa.n * e.q.d * fb.d) := by omega
        simp [hc, this]
      · have : e.q.n * fb.n * fa.d < fa.n * e.q.d * fb.d := by omega
        simp [hc, this]
    refine zq ?_
    try dsimp only [lp18_17, zM, zy, Tryd.f18]
    simp only [bW, if_true, Nat.reduceEqDiff, if_false]
    repeat' first
      | (intro hb; first | cases hb | skip)
      | ((first | apply z9 | apply zh)
         · rfl
         · simp (disch := assumption) only [go_sem, Nat.reduceEqDiff, Nat.reduceAdd, bP, zj, Nat.reduceLeDiff, Nat.reduceLT, Nat.reduceMul, List.length_append, decide_eq_true_eq, zc, z7, Int.reduceToNat, Int.reduceLE, Int.reduceLT, Int.reduceBNe, Int.reduceBEq, hx, hlt', hw3, h67a, h67b, h69a, h69b, h70, hg, hwa, hwb, encR]
           rfl
         · simp only [go_sem, Nat.reduceLT, Nat.reduceEqDiff]
           rfl
         · rfl
         first
         | (apply zg
            · simp only [z6, z5, Nat.reduceLT, decide_true, cond_true, ins]
              rfl
            · simp only [z6, z5, Nat.reduceLT, decide_true, cond_true, ins]
              rfl)
         | (apply zl
            · simp only [z6, z5, Nat.reduceLT, decide_true, cond_true, ins]
              rfl))
      | ((first | apply ze | apply zf)
         · rfl
         · simp only [z6, z5, Nat.reduceLT, decide_true, cond_true, ins]
           rfl)
      | (apply zd
         · simp only [go_sem, Nat.reduceEqDiff])
      | (apply z8
         · simp only [go_sem, Nat.reduceEqDiff])
      | (apply zk
         · kernel_rfl
         · kernel_rfl)
      | (simp only [bW, if_true, Nat.reduceEqDiff, if_false])
    · clear hgd hg
      simp only [Bool.not_eq_true'] at hb
      rw [h' (by simp [hb])]; exact hk _ rfl
    · clear hgd hg
      simp only [Bool.not_eq_false'] at hb
      simp only [List.all_cons, hb, Bool.true_and] at h h'
      exact zG (st1 := ⟨83, [(2, .lref 0 0 3 0), (3, .lref 1 0 1 0), (9, .fn (.func 67) [] [.lref 1 0 1 0, .lref 2 0 1 0]), (41, I 0), (47, .sl false (es.map zP) 7 none), (48, I es.length), (49, I (i + 1 : Nat))], [(0, ⟨[zN p], 3, false⟩), (1, ⟨[.sl nf (fs.map encF) sf none], 1, false⟩), (2, ⟨[I 0], 1, false⟩)], 3, 0⟩) lk18_17 (by kernel_rfl) (ih (i + 1) (by rw [← List.drop_drop, hd]; rfl) hlt h h')

theorem L18_17_1 {F : Exit → St → Option D} (p : Paper) (fs : List F4) (nf : Bool) (sf : Nat) (es : List Edge) (k : List Kt) (x : D) (hnf : nf = true → fs = []) (hsf : nf = false → sf = 4) (hfs : fs.all f4OK = true) (hl : fs.length ≤ 4) (hes : ∀ e ∈ es, edgeB e ∧ e.src ≤ fs.length ∧ e.dst ≤ fs.length) (hlen : es.length ≤ 1000) (hk : ∀ st, get st.tmps 4 = I 31 → zH cfg (lim cfg) 18 F k .ret st = some (I 31)) : ∀ (rest : List Edge) (i : Nat), es.drop i = rest → i ≤ es.length →
    (rest.all (edgeFine fs 1) = true → zH cfg (lim cfg) 18 F k (.exit 4) ⟨83, [(50, B false), (2, .lref 0 0 3 0), (3, .lref 1 0 1 0), (9, .fn (.func 67) [] [.lref 1 0 1 0, .lref 2 0 1 0]), (41, I 1), (47, .sl false (es.map zP) 7 none), (48, I es.length), (49, I (es.length : Nat))], [(0, ⟨[zN p], 3, false⟩), (1, ⟨[.sl nf (fs.map encF) sf none], 1, false⟩), (2, ⟨[I 1], 1, false⟩)], 3, 0⟩ = some x) →
    (rest.all (edgeFine fs 1) = false → x = I 31) →
    EvL cfg (lim cfg) 18 F lp18_17 k ⟨83, [(2, .lref 0 0 3 0), (3, .lref 1 0 1 0), (9, .fn (.func 67) [] [.lref 1 0 1 0, .lref 2 0 1 0]), (41, I 1), (47, .sl false (es.map zP) 7 none), (48, I es.length), (49, I (i : Nat))], [(0, ⟨[zN p], 3, false⟩), (1, ⟨[.sl nf (fs.map encF) sf none], 1, false⟩), (2, ⟨[I 1], 1, false⟩)], 3, 0⟩ = some x := by
  intro rest
  induction rest with
  | nil =>
    intro i hd hi h h'
    have hi' : i = es.length := by
      have := List.drop_eq_nil_iff.1 hd
      omega
    subst hi'
    refine zq ?_
    try dsimp only [lp18_17, zM, zy, Tryd.f18]
    simp only [bW, if_true, Nat.reduceEqDiff, if_false]
    repeat' first
      | (intro hb; first | cases hb | skip)
      | ((first | apply z9 | apply zh)
         · rfl
         · simp (disch := assumption) only [go_sem, Nat.reduceEqDiff, Nat.reduceAdd, bP, zj, Nat.reduceLeDiff, Nat.reduceLT, Nat.reduceMul, List.length_append, decide_eq_true_eq, zc, z7, Int.reduceToNat, Int.reduceLE, Int.reduceLT, Int.reduceBNe, Int.reduceBEq, Int.lt_irrefl]
           rfl
         · simp only [go_sem, Nat.reduceLT, Nat.reduceEqDiff]
           rfl
         · rfl
         first
         | (apply zg
            · simp only [z6, z5, Nat.reduceLT, decide_true, cond_true, ins]
              rfl
            · simp only [z6, z5, Nat.reduceLT, decide_true, cond_true, ins]
              rfl)
         | (apply zl
            · simp only [z6, z5, Nat.reduceLT, decide_true, cond_true, ins]
              rfl))
      | ((first | apply ze | apply zf)
         · rfl
         · simp only [z6, z5, Nat.reduceLT, decide_true, cond_true, ins]
           rfl)
      | (apply zd
         · simp only [go_sem, Nat.reduceEqDiff])
      | (apply z8
         · simp only [go_sem, Nat.reduceEqDiff])
      | (apply zk
         · kernel_rfl
         · kernel_rfl)
      | (simp only [bW, if_true, Nat.reduceEqDiff, if_false])
    exact h rfl
  | cons e rest ih =>
    intro i hd hi h h'
    have hlt : i < es.length := by
      rcases Nat.lt_or_ge i es.length with h | h
      · exact h
      · rw [List.drop_eq_nil_of_le h] at hd; cases hd
    have hm : es[i]? = some e := by rw [← List.head?_drop, hd]; rfl
    obtain ⟨⟨e1, e2, e3, e4, e5, e6, e7, e8⟩, e9, e10⟩ := hes e (List.mem_of_getElem? hm)
    have hx : (es.map zP)[i]? = some (.agg [I e.src, I e.dst, I e.q.n, I e.q.d, B e.why.join, I e.why.at_, B e.why.back]) := by rw [List.getElem?_map, hm]; rfl
    have hlt' : (i : Int) < (es.length : Int) := by omega
    have hw3 : IntKind.i64.wrap ((i : Int) + 1) = ((i + 1 : Nat) : Int) := by rw [wrap_i64 (by omega) (by omega)]; omega
    have h67a := t67_1 fs nf sf e.src hnf hsf e1 e9 (by omega)
    have h67b := t67_1 fs nf sf e.dst hnf hsf e3 e10 (by omega)
    have hfa := factor_ok (ax := 1) (node := e.src) hfs
    have hfb := factor_ok (ax := 1) (node := e.dst) hfs
    have hgd : edgeFine fs 1 e = decide ((zB fs 1 e.src).n * e.q.d * (zB fs 1 e.dst).d ≤ e.q.n * (zB fs 1 e.dst).n * (zB fs 1 e.src).d) := rfl
    generalize zB fs 1 e.src = fa at *
    generalize zB fs 1 e.dst = fb at *
    simp only [ratioOK, Bool.and_eq_true, decide_eq_true_eq] at hfa hfb
    obtain ⟨⟨⟨a1, a2⟩, a3⟩, a4⟩ := hfa
    obtain ⟨⟨⟨b1, b2⟩, b3⟩, b4⟩ := hfb
    have m1 := Int.mul_le_mul a2 e8 (by omega) (by omega)
    have m1' := Int.mul_le_mul a1 e7 (by omega) (by omega)
    have m2 := Int.mul_le_mul e6 b2 (by omega) (by omega)
    have m2' := Int.mul_le_mul e5 b1 (by omega) (by omega)
    have hwa : IntKind.i64.wrap (fa.n * e.q.d) = fa.n * e.q.d := wrap_i64 (by omega) (by omega)
    have hwb : IntKind.i64.wrap (e.q.n * fb.n) = e.q.n * fb.n := wrap_i64 (by omega) (by omega)
    have h69a := t69 (fa.n * e.q.d) fb.d (by omega) (by omega) (by omega) (by omega)
    have h69b := t69 (e.q.n * fb.n) fa.d (by omega) (by omega) (by omega) (by omega)
    have h70 := t70 (hi64 (fa.n * e.q.d) fb.d) (lo64 (fa.n * e.q.d) fb.d) (hi64 (e.q.n * fb.n) fa.d) (lo64 (e.q.n * fb.n) fa.d)
    rw [cmp_of (Int.mul_nonneg (by omega) (by omega)) (Int.mul_nonneg (by omega) (by omega))] at h70
    have hg : decide (cmpI (fa.n * e.q.d * fb.d) (e.q.n * fb.n * fa.d) > 0) = !(edgeFine fs 1 e) := by
      rw [cmp_gt, hgd]
      by_cases hc : fa.n * e.q.d * fb.d ≤ e.q.n * fb.n * fa.d
      · have : ¬ (e.q.n * fb.n * fa.d < fa.n * e.q.d * fb.d) := by omega
        simp [hc, this]
      · have : e.q.n * fb.n * fa.d < fa.n * e.q.d * fb.d := by omega
        simp [hc, this]
    refine zq ?_
    try dsimp only [lp18_17, zM, zy, Tryd.f18]
    simp only [bW, if_true, Nat.reduceEqDiff, if_false]
    repeat' first
      | (intro hb; first | cases hb | skip)
      | ((first | apply z9 | apply zh)
         · rfl
         · simp (disch := assumption) only [go_sem, Nat.reduceEqDiff, Nat.reduceAdd, bP, zj, Nat.reduceLeDiff, Nat.reduceLT, Nat.reduceMul, List.length_append, decide_eq_true_eq, zc, z7, Int.reduceToNat, Int.reduceLE, Int.reduceLT, Int.reduceBNe, Int.reduceBEq, hx, hlt', hw3, h67a, h67b, h69a, h69b, h70, hg, hwa, hwb, encR]
           rfl
         · simp only [go_sem, Nat.reduceLT, Nat.reduceEqDiff]
           rfl
         · rfl
         first
         | (apply zg
            · simp only [z6, z5, Nat.reduceLT, decide_true, cond_true, ins]
              rfl
            · simp only [z6, z5, Nat.reduceLT, decide_true, cond_true, ins]
              rfl)
         | (apply zl
            · simp only [z6, z5, Nat.reduceLT, decide_true, cond_true, ins]
              rfl))
      | ((first | apply ze | apply zf)
         · rfl
         · simp only [z6, z5, Nat.reduceLT, decide_true, cond_true, ins]
           rfl)
      | (apply zd
         · simp only [go_sem, Nat.reduceEqDiff])
      | (apply z8
         · simp only [go_sem, Nat.reduceEqDiff])
      | (apply zk
         · kernel_rfl
         · kernel_rfl)
      | (simp only [bW, if_true, Nat.reduceEqDiff, if_false])
    · clear hgd hg
      simp only [Bool.not_eq_true'] at hb
      rw [h' (by simp [hb])]; exact hk _ rfl
    · clear hgd hg
      simp only [Bool.not_eq_false'] at hb
      simp only [List.all_cons, hb, Bool.true_and] at h h'
      exact zG (st1 := ⟨83, [(2, .lref 0 0 3 0), (3, .lref 1 0 1 0), (9, .fn (.func 67) [] [.lref 1 0 1 0, .lref 2 0 1 0]), (41, I 1), (47, .sl false (es.map zP) 7 none), (48, I es.length), (49, I (i + 1 : Nat))], [(0, ⟨[zN p], 3, false⟩), (1, ⟨[.sl nf (fs.map encF) sf none], 1, false⟩), (2, ⟨[I 1], 1, false⟩)], 3, 0⟩) lk18_17 (by kernel_rfl) (ih (i + 1) (by rw [← List.drop_drop, hd]; rfl) hlt h h')

theorem t18 (p : Paper) (fs : List F4) (nf : Bool) (sf : Nat) (hwf : p.wf) (hnf : nf = true → fs = []) (hsf : nf = false → sf = 4) (hl : fs.length ≤ 9223372036854775807) : (lim cfg).pure 18 [zN p, .sl nf (fs.map encF) sf none] = some (I (checkFF p fs)) := by
  have h15 := t15 p hwf
  have hlf := len_if (f := encF) hnf
  unfold check at h15
  unfold checkFF
  cases hok : zr p with
  | false =>
    rw [hok] at h15
    simp only [Bool.false_eq_true, if_false] at h15 ⊢
    refine zu (zn 18) cfn18 rfl (n := 83) rfl ?_
    simp only [bW, if_true, Nat.reduceEqDiff, if_false, zp]
    repeat' first
      | (intro hb; first | cases hb | skip)
      | ((first | apply z9 | apply zh)
         · rfl
         · simp (disch := assumption) only [go_sem, Nat.reduceEqDiff, Nat.reduceAdd, bP, zj, Nat.reduceLeDiff, Nat.reduceLT, Nat.reduceMul, List.length_append, decide_eq_true_eq, zc, z7, Int.reduceToNat, Int.reduceLE, Int.reduceLT, Int.reduceBNe, Int.reduceBEq, h15]
           rfl
         · simp only [go_sem, Nat.reduceLT, Nat.reduceEqDiff]
           rfl
         · rfl
         first
         | (apply zg
            · simp only [z6, z5, Nat.reduceLT, decide_true, cond_true, ins]
              rfl
            · simp only [z6, z5, Nat.reduceLT, decide_true, cond_true, ins]
              rfl)
         | (apply zl
            · simp only [z6, z5, Nat.reduceLT, decide_true, cond_true, ins]
              rfl))
      | ((first | apply ze | apply zf)
         · rfl
         · simp only [z6, z5, Nat.reduceLT, decide_true, cond_true, ins]
           rfl)
      | (apply zd
         · simp only [go_sem, Nat.reduceEqDiff])
      | (apply z8
         · simp only [go_sem, Nat.reduceEqDiff])
      | (apply zk
         · kernel_rfl
         · kernel_rfl)
      | (simp only [bW, if_true, Nat.reduceEqDiff, if_false])
    all_goals try simp only [go_sem, Nat.reduceEqDiff, bP, Nat.reduceAdd, Nat.reduceLeDiff, List.length_map, Tryd.f18]
    all_goals first | done | rfl | (simp_all []; done) | trace_state
  | true =>
    rw [hok] at h15
    simp only [if_true] at h15 ⊢
    obtain ⟨o1, o2, _⟩ := zD hok
    have e1 : IntKind.i64.wrap (0 + 1) = 1 := by decide
    have e2 : IntKind.i64.wrap (1 + 1) = 2 := by decide
    by_cases hlen : (fs.length : Int) = p.sheets
    · have hne : ((fs.length : Int) != p.sheets) = false := by simp [hlen]
      refine zu (zn 18) cfn18 rfl (n := 83) rfl ?_
      generalize hF : finP cfg Tryd.f18 = F
      simp only [bW, if_true, Nat.reduceEqDiff, if_false, zp]
      repeat' first
        | (intro hb; first | cases hb | skip)
        | ((first | apply z9 | apply zh)
           · rfl
           · simp (disch := assumption) only [go_sem, Nat.reduceEqDiff, Nat.reduceAdd, bP, zj, Nat.reduceLeDiff, Nat.reduceLT, Nat.reduceMul, List.length_append, decide_eq_true_eq, zc, z7, Int.reduceToNat, Int.reduceLE, Int.reduceLT, Int.reduceBNe, Int.reduceBEq, h15, hlf, hne]
             rfl
           · simp only [go_sem, Nat.reduceLT, Nat.reduceEqDiff]
             rfl
           · rfl
           first
           | (apply zg
              · simp only [z6, z5, Nat.reduceLT, decide_true, cond_true, ins]
                rfl
              · simp only [z6, z5, Nat.reduceLT, decide_true, cond_true, ins]
                rfl)
           | (apply zl
              · simp only [z6, z5, Nat.reduceLT, decide_true, cond_true, ins]
                rfl))
        | ((first | apply ze | apply zf)
           · rfl
           · simp only [z6, z5, Nat.reduceLT, decide_true, cond_true, ins]
             rfl)
        | (apply zd
           · simp only [go_sem, Nat.reduceEqDiff])
        | (apply z8
           · simp only [go_sem, Nat.reduceEqDiff])
        | (apply zk
           · kernel_rfl
           · kernel_rfl)
        | (simp only [bW, if_true, Nat.reduceEqDiff, if_false])
      have hend : ∀ v st, get st.tmps 4 = I v → F .ret st = some (I v) := by
        intro v st hd
        subst hF
        simp only [go_sem, Nat.reduceEqDiff, bP, Nat.reduceAdd, Nat.reduceLeDiff, List.length_map, Tryd.f18, hd]
      refine w_loop (st1 := ⟨83, [(2, .lref 0 0 3 0), (3, .lref 1 0 1 0), (24, .sl nf (fs.map encF) sf none), (25, I fs.length), (26, I (0 : Nat))], [(0, ⟨[zN p], 3, false⟩), (1, ⟨[.sl nf (fs.map encF) sf none], 1, false⟩)], 2, 0⟩) lk18_7 (by kernel_rfl) (L18_7 p fs nf sf _ _ hnf hsf hl (fun st hd => ?_) fs 0 rfl (Nat.zero_le _) (fun hfs => ?_) (fun hfs => by simp [hlen, hfs]))
      · simp only [bW, if_true, Nat.reduceEqDiff, if_false]
        exact hend 1 st hd
      · rw [if_pos ⟨hlen, hfs⟩]
        have h68a := t68 p 0 hwf hok
        have h68b := t68 p 1 hwf hok
        simp only [bW, if_true, Nat.reduceEqDiff, if_false]
        repeat' first
          | (intro hb; first | cases hb | skip)
          | ((first | apply z9 | apply zh)
             · rfl
             · simp (disch := assumption) only [go_sem, Nat.reduceEqDiff, Nat.reduceAdd, bP, zj, Nat.reduceLeDiff, Nat.reduceLT, Nat.reduceMul, List.length_append, decide_eq_true_eq, zc, z7, Int.reduceToNat, Int.reduceLE, Int.reduceLT, Int.reduceBNe, Int.reduceBEq]
               rfl
             · simp only [go_sem, Nat.reduceLT, Nat.reduceEqDiff]
               rfl
             · rfl
             first
             | (apply zg
                · simp only [z6, z5, Nat.reduceLT, decide_true, cond_true, ins]
                  rfl
                · simp only [z6, z5, Nat.reduceLT, decide_true, cond_true, ins]
                  rfl)
             | (apply zl
                · simp only [z6, z5, Nat.reduceLT, decide_true, cond_true, ins]
                  rfl))
          | ((first | apply ze | apply zf)
             · rfl
             · simp only [z6, z5, Nat.reduceLT, decide_true, cond_true, ins]
               rfl)
          | (apply zd
             · simp only [go_sem, Nat.reduceEqDiff])
          | (apply z8
             · simp only [go_sem, Nat.reduceEqDiff])
          | (apply zk
             · kernel_rfl
             · kernel_rfl)
          | (simp only [bW, if_true, Nat.reduceEqDiff, if_false])
        refine w_loop (st1 := ⟨83, [(2, .lref 0 0 3 0), (3, .lref 1 0 1 0), (41, I 0)], [(0, ⟨[zN p], 3, false⟩), (1, ⟨[.sl nf (fs.map encF) sf none], 1, false⟩)], 2, 0⟩) lk18_13 (by kernel_rfl) ?_
        refine zq ?_
        try dsimp only [lp18_13, zM, zy, Tryd.f18]
        simp only [bW, if_true, Nat.reduceEqDiff, if_false]
        repeat' first
          | (intro hb; first | cases hb | skip)
          | ((first | apply z9 | apply zh)
             · rfl
             · simp (disch := assumption) only [go_sem, Nat.reduceEqDiff, Nat.reduceAdd, bP, zj, Nat.reduceLeDiff, Nat.reduceLT, Nat.reduceMul, List.length_append, decide_eq_true_eq, zc, z7, Int.reduceToNat, Int.reduceLE, Int.reduceLT, Int.reduceBNe, Int.reduceBEq, h68a, List.length_map]
               rfl
             · simp only [go_sem, Nat.reduceLT, Nat.reduceEqDiff]
               rfl
             · rfl
             first
             | (apply zg
                · simp only [z6, z5, Nat.reduceLT, decide_true, cond_true, ins]
                  rfl
                · simp only [z6, z5, Nat.reduceLT, decide_true, cond_true, ins]
                  rfl)
             | (apply zl
                · simp only [z6, z5, Nat.reduceLT, decide_true, cond_true, ins]
                  rfl))
          | ((first | apply ze | apply zf)
             · rfl
             · simp only [z6, z5, Nat.reduceLT, decide_true, cond_true, ins]
               rfl)
          | (apply zd
             · simp only [go_sem, Nat.reduceEqDiff])
          | (apply z8
             · simp only [go_sem, Nat.reduceEqDiff])
          | (apply zk
             · kernel_rfl
             · kernel_rfl)
          | (simp only [bW, if_true, Nat.reduceEqDiff, if_false])
        refine w_loop (st1 := ⟨83, [(2, .lref 0 0 3 0), (3, .lref 1 0 1 0), (9, .fn (.func 67) [] [.lref 1 0 1 0, .lref 2 0 1 0]), (41, I 0), (47, .sl false ((zx p 0).map zP) 7 none), (48, I (zx p 0).length), (49, I (0 : Nat))], [(0, ⟨[zN p], 3, false⟩), (1, ⟨[.sl nf (fs.map encF) sf none], 1, false⟩), (2, ⟨[I 0], 1, false⟩)], 3, 0⟩) lk18_17 (by kernel_rfl) (L18_17_0 p fs nf sf (zx p 0) _ _ hnf hsf hfs (by omega) (fun e he => ⟨(edgesB hok 0).1 e he, by have := edges_sheets hok 0 e he; omega, by have := edges_sheets hok 0 e he; omega⟩) (edgesB hok 0).2 (fun st hd => ?_) (zx p 0) 0 rfl (Nat.zero_le _) (fun ha => ?_) (fun ha => ?_))
        · simp only [bW, if_true, Nat.reduceEqDiff, if_false]
          exact hend 31 st hd
        · have ha0 : factorsFine p fs 0 = true := ha
          clear ha
          simp only [bW, if_true, Nat.reduceEqDiff, if_false]
          repeat' first
            | (intro hb; first | cases hb | skip)
            | ((first | apply z9 | apply zh)
               · rfl
               · simp (disch := assumption) only [go_sem, Nat.reduceEqDiff, Nat.reduceAdd, bP, zj, Nat.reduceLeDiff, Nat.reduceLT, Nat.reduceMul, List.length_append, decide_eq_true_eq, zc, z7, Int.reduceToNat, Int.reduceLE, Int.reduceLT, Int.reduceBNe, Int.reduceBEq, e1]
                 rfl
               · simp only [go_sem, Nat.reduceLT, Nat.reduceEqDiff]
                 rfl
               · rfl
               first
               | (apply zg
                  · simp only [z6, z5, Nat.reduceLT, decide_true, cond_true, ins]
                    rfl
                  · simp only [z6, z5, Nat.reduceLT, decide_true, cond_true, ins]
                    rfl)
               | (apply zl
                  · simp only [z6, z5, Nat.reduceLT, decide_true, cond_true, ins]
                    rfl))
            | ((first | apply ze | apply zf)
               · rfl
               · simp only [z6, z5, Nat.reduceLT, decide_true, cond_true, ins]
                 rfl)
            | (apply zd
               · simp only [go_sem, Nat.reduceEqDiff])
            | (apply z8
               · simp only [go_sem, Nat.reduceEqDiff])
            | (apply zk
               · kernel_rfl
               · kernel_rfl)
            | (simp only [bW, if_true, Nat.reduceEqDiff, if_false])
          refine zG (st1 := ⟨83, [(2, .lref 0 0 3 0), (3, .lref 1 0 1 0), (41, I 1)], [(0, ⟨[zN p], 3, false⟩), (1, ⟨[.sl nf (fs.map encF) sf none], 1, false⟩)], 2, 0⟩) lk18_13 (by kernel_rfl) ?_
          refine zq ?_
          try dsimp only [lp18_13, zM, zy, Tryd.f18]
          simp only [bW, if_true, Nat.reduceEqDiff, if_false]
          repeat' first
            | (intro hb; first | cases hb | skip)
            | ((first | apply z9 | apply zh)
               · rfl
               · simp (disch := assumption) only [go_sem, Nat.reduceEqDiff, Nat.reduceAdd, bP, zj, Nat.reduceLeDiff, Nat.reduceLT, Nat.reduceMul, List.length_append, decide_eq_true_eq, zc, z7, Int.reduceToNat, Int.reduceLE, Int.reduceLT, Int.reduceBNe, Int.reduceBEq, h68b, List.length_map]
                 rfl
               · simp only [go_sem, Nat.reduceLT, Nat.reduceEqDiff]
                 rfl
               · rfl
               first
               | (apply zg
                  · simp only [z6, z5, Nat.reduceLT, decide_true, cond_true, ins]
                    rfl
                  · simp only [z6, z5, Nat.reduceLT, decide_true, cond_true, ins]
                    rfl)
               | (apply zl
                  · simp only [z6, z5, Nat.reduceLT, decide_true, cond_true, ins]
                    rfl))
            | ((first | apply ze | apply zf)
               · rfl
               · simp only [z6, z5, Nat.reduceLT, decide_true, cond_true, ins]
                 rfl)
            | (apply zd
               · simp only [go_sem, Nat.reduceEqDiff])
            | (apply z8
               · simp only [go_sem, Nat.reduceEqDiff])
            | (apply zk
               · kernel_rfl
               · kernel_rfl)
            | (simp only [bW, if_true, Nat.reduceEqDiff, if_false])
          refine w_loop (st1 := ⟨83, [(2, .lref 0 0 3 0), (3, .lref 1 0 1 0), (9, .fn (.func 67) [] [.lref 1 0 1 0, .lref 2 0 1 0]), (41, I 1), (47, .sl false ((zx p 1).map zP) 7 none), (48, I (zx p 1).length), (49, I (0 : Nat))], [(0, ⟨[zN p], 3, false⟩), (1, ⟨[.sl nf (fs.map encF) sf none], 1, false⟩), (2, ⟨[I 1], 1, false⟩)], 3, 0⟩) lk18_17 (by kernel_rfl) (L18_17_1 p fs nf sf (zx p 1) _ _ hnf hsf hfs (by omega) (fun e he => ⟨(edgesB hok 1).1 e he, by have := edges_sheets hok 1 e he; omega, by have := edges_sheets hok 1 e he; omega⟩) (edgesB hok 1).2 (fun st hd => ?_) (zx p 1) 0 rfl (Nat.zero_le _) (fun ha => ?_) (fun ha => ?_))
          · simp only [bW, if_true, Nat.reduceEqDiff, if_false]
            exact hend 31 st hd
          · have ha1 : factorsFine p fs 1 = true := ha
            simp only [bW, if_true, Nat.reduceEqDiff, if_false]
            repeat' first
              | (intro hb; first | cases hb | skip)
              | ((first | apply z9 | apply zh)
                 · rfl
                 · simp (disch := assumption) only [go_sem, Nat.reduceEqDiff, Nat.reduceAdd, bP, zj, Nat.reduceLeDiff, Nat.reduceLT, Nat.reduceMul, List.length_append, decide_eq_true_eq, zc, z7, Int.reduceToNat, Int.reduceLE, Int.reduceLT, Int.reduceBNe, Int.reduceBEq, e2]
                   rfl
                 · simp only [go_sem, Nat.reduceLT, Nat.reduceEqDiff]
                   rfl
                 · rfl
                 first
                 | (apply zg
                    · simp only [z6, z5, Nat.reduceLT, decide_true, cond_true, ins]
                      rfl
                    · simp only [z6, z5, Nat.reduceLT, decide_true, cond_true, ins]
                      rfl)
                 | (apply zl
                    · simp only [z6, z5, Nat.reduceLT, decide_true, cond_true, ins]
                      rfl))
              | ((first | apply ze | apply zf)
                 · rfl
                 · simp only [z6, z5, Nat.reduceLT, decide_true, cond_true, ins]
                   rfl)
              | (apply zd
                 · simp only [go_sem, Nat.reduceEqDiff])
              | (apply z8
                 · simp only [go_sem, Nat.reduceEqDiff])
              | (apply zk
                 · kernel_rfl
                 · kernel_rfl)
              | (simp only [bW, if_true, Nat.reduceEqDiff, if_false])
            refine zG (st1 := ⟨83, [(2, .lref 0 0 3 0), (3, .lref 1 0 1 0), (41, I 2)], [(0, ⟨[zN p], 3, false⟩), (1, ⟨[.sl nf (fs.map encF) sf none], 1, false⟩)], 2, 0⟩) lk18_13 (by kernel_rfl) ?_
            refine zq ?_
            try dsimp only [lp18_13, zM, zy, Tryd.f18]
            simp only [bW, if_true, Nat.reduceEqDiff, if_false]
            repeat' first
              | (intro hb; first | cases hb | skip)
              | ((first | apply z9 | apply zh)
                 · rfl
                 · simp (disch := assumption) only [go_sem, Nat.reduceEqDiff, Nat.reduceAdd, bP, zj, Nat.reduceLeDiff, Nat.reduceLT, Nat.reduceMul, List.length_append, decide_eq_true_eq, zc, z7, Int.reduceToNat, Int.reduceLE, Int.reduceLT, Int.reduceBNe, Int.reduceBEq]
                   rfl
                 · simp only [go_sem, Nat.reduceLT, Nat.reduceEqDiff]
                   rfl
                 · rfl
                 first
                 | (apply zg
                    · simp only [z6, z5, Nat.reduceLT, decide_true, cond_true, ins]
                      rfl
                    · simp only [z6, z5, Nat.reduceLT, decide_true, cond_true, ins]
                      rfl)
                 | (apply zl
                    · simp only [z6, z5, Nat.reduceLT, decide_true, cond_true, ins]
                      rfl))
              | ((first | apply ze | apply zf)
                 · rfl
                 · simp only [z6, z5, Nat.reduceLT, decide_true, cond_true, ins]
                   rfl)
              | (apply zd
                 · simp only [go_sem, Nat.reduceEqDiff])
              | (apply z8
                 · simp only [go_sem, Nat.reduceEqDiff])
              | (apply zk
                 · kernel_rfl
                 · kernel_rfl)
              | (simp only [bW, if_true, Nat.reduceEqDiff, if_false])
            simp only [ha0, ha1, Bool.and_self, if_true]
            exact hend 0 _ rfl
          · change factorsFine p fs 1 = false at ha
            simp [ha]
        · change factorsFine p fs 0 = false at ha
          simp [ha]
    · have hne : ((fs.length : Int) != p.sheets) = true := by simp [hlen]
      rw [if_neg (fun h => hlen h.1)]
      refine zu (zn 18) cfn18 rfl (n := 83) rfl ?_
      simp only [bW, if_true, Nat.reduceEqDiff, if_false, zp]
      repeat' first
        | (intro hb; first | cases hb | skip)
        | ((first | apply z9 | apply zh)
           · rfl
           · simp (disch := assumption) only [go_sem, Nat.reduceEqDiff, Nat.reduceAdd, bP, zj, Nat.reduceLeDiff, Nat.reduceLT, Nat.reduceMul, List.length_append, decide_eq_true_eq, zc, z7, Int.reduceToNat, Int.reduceLE, Int.reduceLT, Int.reduceBNe, Int.reduceBEq, h15, hlf, hne]
             rfl
           · simp only [go_sem, Nat.reduceLT, Nat.reduceEqDiff]
             rfl
           · rfl
           first
           | (apply zg
              · simp only [z6, z5, Nat.reduceLT, decide_true, cond_true, ins]
                rfl
              · simp only [z6, z5, Nat.reduceLT, decide_true, cond_true, ins]
                rfl)
           | (apply zl
              · simp only [z6, z5, Nat.reduceLT, decide_true, cond_true, ins]
                rfl))
        | ((first | apply ze | apply zf)
           · rfl
           · simp only [z6, z5, Nat.reduceLT, decide_true, cond_true, ins]
             rfl)
        | (apply zd
           · simp only [go_sem, Nat.reduceEqDiff])
        | (apply z8
           · simp only [go_sem, Nat.reduceEqDiff])
        | (apply zk
           · kernel_rfl
           · kernel_rfl)
        | (simp only [bW, if_true, Nat.reduceEqDiff, if_false])
      all_goals try simp only [go_sem, Nat.reduceEqDiff, bP, Nat.reduceAdd, Nat.reduceLeDiff, List.length_map, Tryd.f18]
      all_goals first | done | rfl | (simp_all []; done) | trace_state

end Go.VS
/-
  Walks over at most five nodes: what a walk's quotient comes to; a walk may be shortened to four zx if no short closed walk comes to less than one. (A text of this claim's own; nothing of it is trusted.)
-/
namespace Go.VS.Walks
structure T where
  src : Nat
  dst : Nat
  w : Rat
def Ch (E : T → Prop) : Nat → List T → Nat → Prop
  | a, [], b => a = b
  | a, t :: r, b => E t ∧ t.src = a ∧ Ch E t.dst r b
def pr : List T → Rat
  | [] => 1
  | t :: r => t.w * pr r
theorem pr_append (l r : List T) : pr (l ++ r) = pr l * pr r := by
  induction l with
  | nil => simp [pr, Rat.one_mul]
  | cons t l ih => simp only [List.cons_append, pr, ih, Rat.mul_assoc]
theorem ch_append {E : T → Prop} {l r : List T} {a b : Nat} : Ch E a (l ++ r) b ↔ ∃ c, Ch E a l c ∧ Ch E c r b := by
  induction l generalizing a with
  | nil => simp [Ch]
  | cons t l ih =>
    simp only [List.cons_append, Ch, ih]
    constructor
    · rintro ⟨h1, h2, c, h3, h4⟩; exact ⟨c, ⟨h1, h2, h3⟩, h4⟩
    · rintro ⟨c, ⟨h1, h2, h3⟩, h4⟩; exact ⟨h1, h2, c, h3, h4⟩
theorem ch_one {E : T → Prop} {t : T} (h : E t) : Ch E t.src [t] t.dst := ⟨h, rfl, rfl⟩
theorem pr_pos {E : T → Prop} (hp : ∀ t, E t → 0 < t.w) {l : List T} : ∀ {a b}, Ch E a l b → 0 < pr l := by
  induction l with
  | nil => intro a b _; exact (by decide : (0 : Rat) < 1)
  | cons t l ih => intro a b h; exact Rat.mul_pos (hp t h.1) (ih h.2.2)
theorem nodup_len : ∀ (n : Nat) (l : List Nat), l.Nodup → (∀ x ∈ l, x < n) → l.length ≤ n := by
  intro n
  induction n with
  | zero =>
    intro l _ h
    cases l with
    | nil => exact Nat.le_refl _
    | cons x r => exact absurd (h x List.mem_cons_self) (Nat.not_lt_zero _)
  | succ n ih =>
    intro l hl h
    have h1 := ih (l.erase n) (hl.erase n) (fun x hx => by
      have h2 := h x (List.mem_of_mem_erase hx)
      have h3 : x ≠ n := fun e => by
        subst e
        exact absurd hx (hl.not_mem_erase)
      omega)
    rw [List.length_erase] at h1
    split at h1 <;> omega
theorem ch_split {E : T → Prop} {l : List T} : ∀ {a b c : Nat}, Ch E a l b → c ∈ l.map T.dst → ∃ l1 l2, l = l1 ++ l2 ∧ l1 ≠ [] ∧ Ch E a l1 c ∧ Ch E c l2 b := by
  induction l with
  | nil => intro a b c _ h; cases h
  | cons t l ih =>
    intro a b c h hc
    rcases List.mem_cons.1 hc with rfl | hc
    · exact ⟨[t], l, rfl, by simp, ⟨h.1, h.2.1, rfl⟩, h.2.2⟩
    · obtain ⟨l1, l2, rfl, h1, h2, h3⟩ := ih h.2.2 hc
      exact ⟨t :: l1, l2, rfl, by simp, ⟨h.1, h.2.1, h2⟩, h3⟩
theorem ch_loop {E : T → Prop} {l : List T} : ∀ {a b : Nat}, Ch E a l b → (a :: l.map T.dst).Nodup ∨ ∃ l1 l2 l3 c, l = l1 ++ (l2 ++ l3) ∧ l2 ≠ [] ∧ Ch E a l1 c ∧ Ch E c l2 c ∧ Ch E c l3 b := by
  induction l with
  | nil => intro a b _; exact .inl (by simp)
  | cons t l ih =>
    intro a b h
    by_cases ha : a ∈ (t :: l).map T.dst
    · obtain ⟨l1, l2, e, h1, h2, h3⟩ := ch_split h ha
      exact .inr ⟨[], l1, l2, a, e, h1, rfl, h2, h3⟩
    · rcases ih h.2.2 with hn | ⟨l1, l2, l3, c, rfl, h1, h2, h3, h4⟩
      · exact .inl (List.nodup_cons.2 ⟨ha, hn⟩)
      · exact .inr ⟨t :: l1, l2, l3, c, rfl, h1, ⟨h.1, h.2.1, h2⟩, h3, h4⟩
theorem ch_nodes {E : T → Prop} {N : Nat} (hn : ∀ t, E t → t.src < N ∧ t.dst < N) {l : List T} : ∀ {a b : Nat}, Ch E a l b → ∀ x ∈ l.map T.dst, x < N := by
  induction l with
  | nil => intro a b _ x hx; cases hx
  | cons t l ih =>
    intro a b h x hx
    rcases List.mem_cons.1 hx with rfl | hx
    · exact (hn t h.1).2
    · exact ih h.2.2 x hx
/-- No short closed walk comes to less than one. -/
def Fair (E : T → Prop) (N : Nat) : Prop := ∀ a l, Ch E a l a → l.length ≤ N → 1 ≤ pr l
theorem shorten {E : T → Prop} {N : Nat} (hp : ∀ t, E t → 0 < t.w) (hn : ∀ t, E t → t.src < N ∧ t.dst < N) (hf : Fair E N) : ∀ (n : Nat) (l : List T), l.length ≤ n → ∀ {a b : Nat}, Ch E a l b → ∃ r, Ch E a r b ∧ (r.length < N ∨ r = []) ∧ pr r ≤ pr l ∧ (l.length < N → r = l) := by
  intro n
  induction n with
  | zero =>
    intro l hl a b h
    have : l = [] := List.length_eq_zero_iff.1 (by omega)
    exact ⟨l, h, .inr this, Rat.le_refl, fun _ => rfl⟩
  | succ n ih =>
    intro l hl a b h
    by_cases hN : l.length < N
    · exact ⟨l, h, .inl hN, Rat.le_refl, fun _ => rfl⟩
    · cases l with
      | nil => exact ⟨[], h, .inr rfl, Rat.le_refl, fun _ => rfl⟩
      | cons t0 l0 =>
      have hl' : (t0 :: l0) = (t0 :: l0).take N ++ (t0 :: l0).drop N := (List.take_append_drop N _).symm
      generalize hL : t0 :: l0 = l at *
      rw [hl'] at h
      obtain ⟨m, h1, h2⟩ := ch_append.1 h
      have ha : a < N := by
        rw [← hl', ← hL] at h
        have := (hn t0 h.1).1
        rw [h.2.1] at this
        exact this
      have hlen : (l.take N).length = N := by rw [List.length_take]; omega
      rcases ch_loop h1 with hd | ⟨l1, l2, l3, c, e, g1, g2, g3, g4⟩
      · have := nodup_len N _ hd (fun x hx => by
          rcases List.mem_cons.1 hx with rfl | hx
          · exact ha
          · exact ch_nodes hn h1 x hx)
        simp at this
        omega
      · have hone : 1 ≤ pr l2 := hf c l2 g3 (by
          have := congrArg List.length e
          simp only [List.length_append] at this
          omega)
        have hpos : 0 < l2.length := by
          cases l2 with
          | nil => exact absurd rfl g1
          | cons _ _ => simp
        have el : l = l1 ++ (l2 ++ (l3 ++ l.drop N)) := by
          conv => lhs; rw [hl', e]
          simp only [List.append_assoc]
        have hr : Ch E a (l1 ++ (l3 ++ l.drop N)) b := ch_append.2 ⟨c, g2, ch_append.2 ⟨m, g4, h2⟩⟩
        have hle : (l1 ++ (l3 ++ l.drop N)).length ≤ n := by
          have := congrArg List.length el
          simp only [List.length_append] at this ⊢
          omega
        obtain ⟨r, r1, r2, r3, _⟩ := ih _ hle hr
        refine ⟨r, r1, r2, Rat.le_trans r3 ?_, fun h => absurd h hN⟩
        have p1 : 0 < pr l1 := pr_pos hp g2
        have p3 : 0 < pr (l3 ++ l.drop N) := pr_pos hp (ch_append.2 ⟨m, g4, h2⟩)
        have q1 : pr (l3 ++ l.drop N) ≤ pr l2 * pr (l3 ++ l.drop N) := by
          have := Rat.mul_le_mul_of_nonneg_right hone (Rat.le_of_lt p3)
          rwa [Rat.one_mul] at this
        have q2 := Rat.mul_le_mul_of_nonneg_left q1 (Rat.le_of_lt p1)
        have e1 : pr l = pr l1 * (pr l2 * pr (l3 ++ l.drop N)) := by
          rw [← pr_append l2, ← pr_append l1]
          exact congrArg pr el
        rw [e1, pr_append l1]
        exact q2
theorem closed_one {E : T → Prop} {N : Nat} (hp : ∀ t, E t → 0 < t.w) (hn : ∀ t, E t → t.src < N ∧ t.dst < N) (hf : Fair E N) {a : Nat} {l : List T} (h : Ch E a l a) : 1 ≤ pr l := by
  obtain ⟨r, r1, r2, r3, _⟩ := shorten hp hn hf _ l (Nat.le_refl _) h
  refine Rat.le_trans (hf a r r1 ?_) r3
  rcases r2 with r2 | rfl
  · omega
  · exact Nat.zero_le _

/-! ### quotients of numbers -/
def vq (n d : Int) : Rat := Rat.divInt n d
theorem vq_cancel {n d : Int} (hd : 0 < d) : vq n d * (d : Rat) = n := by
  unfold vq
  rw [Rat.divInt_eq_div, Rat.div_mul_cancel]
  intro h
  have := Rat.intCast_eq_zero_iff.1 h
  omega
theorem vq_scale {n d d' : Int} (hd : 0 < d) : vq n d * ((d : Rat) * (d' : Rat)) = ((n * d' : Int) : Rat) := by
  rw [← Rat.mul_assoc, vq_cancel hd, Rat.intCast_mul]
theorem vq_lt {n d n' d' : Int} (hd : 0 < d) (hd' : 0 < d') : vq n d < vq n' d' ↔ n * d' < n' * d := by
  have h1 : (0 : Rat) < (d : Rat) * (d' : Rat) := Rat.mul_pos (Rat.intCast_pos.2 hd) (Rat.intCast_pos.2 hd')
  rw [← Rat.mul_lt_mul_right h1, vq_scale hd, Rat.mul_comm (d : Rat), vq_scale hd', Rat.intCast_lt_intCast]
theorem vq_le {n d n' d' : Int} (hd : 0 < d) (hd' : 0 < d') : vq n d ≤ vq n' d' ↔ n * d' ≤ n' * d := by
  rw [← Rat.not_lt, vq_lt hd' hd, Int.not_lt]
theorem vq_mul (a b c d : Int) : vq a b * vq c d = vq (a * c) (b * d) := Rat.divInt_mul_divInt a c
theorem vq_low {n d g : Int} (hg : 0 < g) (h1 : g ∣ n) (h2 : g ∣ d) : vq (n / g) (d / g) = vq n d := by
  obtain ⟨a, rfl⟩ := h1
  obtain ⟨b, rfl⟩ := h2
  rw [Int.mul_ediv_cancel_left _ (by omega), Int.mul_ediv_cancel_left _ (by omega)]
  exact (Rat.divInt_mul_left (by omega)).symm
theorem vq_eq {n d n' d' : Int} (hd : 0 < d) (hd' : 0 < d') (hg : Int.gcd d n = 1) (hg' : Int.gcd d' n' = 1) (h : vq n d = vq n' d') : n = n' ∧ d = d' := by
  unfold vq at h
  have a1 := Rat.num_divInt n d
  have a2 := Rat.num_divInt n' d'
  have b1 := Rat.den_divInt n d
  have b2 := Rat.den_divInt n' d'
  rw [h] at a1 b1
  rw [a1] at a2
  rw [b1] at b2
  rw [hg, hg', Int.sign_eq_one_of_pos hd, Int.sign_eq_one_of_pos hd'] at a2
  rw [hg, hg', if_neg (by omega), if_neg (by omega)] at b2
  simp at a2 b2
  omega
theorem vq_one : vq 1 1 = 1 := by decide
theorem vq_pos {n d : Int} (hn : 0 < n) (hd : 0 < d) : 0 < vq n d := by
  have h := (vq_lt (n := 0) (d := 1) (by omega) hd).2 (by omega : 0 * d < n * 1)
  have e : vq 0 1 = 0 := by decide
  rwa [e] at h
end Go.VS.Walks
/-
  What the chains of a paper are: the least quotients of walks. (A text of this claim's own; nothing of it is trusted.)
-/
namespace Go.VS
open Go Go.VS.Walks
def vR (r : Ratio) : Rat := vq r.n r.d
def tE (e : Edge) : T := ⟨e.src.toNat, e.dst.toNat, vR e.q⟩
def inE (es : List Edge) (t : T) : Prop := ∃ e, e ∈ es ∧ tE e = t
def prE (w : List Edge) : Rat := pr (w.map tE)
/-- A walk along zx. -/
def Wk (es : List Edge) (a : Nat) (w : List Edge) (b : Nat) : Prop := Ch (inE es) a (w.map tE) b ∧ ∀ e ∈ w, e ∈ es
theorem wk_nil (es : List Edge) (a : Nat) : Wk es a [] a := ⟨rfl, fun _ h => by cases h⟩
theorem wk_append {es w v : List Edge} {a b c : Nat} (h1 : Wk es a w b) (h2 : Wk es b v c) : Wk es a (w ++ v) c := by
  refine ⟨by rw [List.map_append]; exact ch_append.2 ⟨b, h1.1, h2.1⟩, fun e he => ?_⟩
  rcases List.mem_append.1 he with he | he
  · exact h1.2 e he
  · exact h2.2 e he
theorem wk_one {es : List Edge} {e : Edge} (he : e ∈ es) : Wk es e.src.toNat [e] e.dst.toNat :=
  ⟨⟨⟨e, he, rfl⟩, rfl, rfl⟩, fun e' h => by rcases List.mem_singleton.1 h with rfl; exact he⟩
theorem wk_snoc {es w : List Edge} {a : Nat} {e : Edge} (h1 : Wk es a w e.src.toNat) (he : e ∈ es) : Wk es a (w ++ [e]) e.dst.toNat := wk_append h1 (wk_one he)
theorem wk_unsnoc {es w : List Edge} {a b : Nat} {e : Edge} (h : Wk es a (w ++ [e]) b) : Wk es a w e.src.toNat ∧ e ∈ es ∧ e.dst.toNat = b := by
  have hm := h.2 e (by simp)
  have h1 := h.1
  rw [List.map_append] at h1
  obtain ⟨c, h2, h3⟩ := ch_append.1 h1
  refine ⟨⟨?_, fun e' he => h.2 e' (by simp [he])⟩, hm, h3.2.2⟩
  rw [show e.src.toNat = c from h3.2.1]
  exact h2
theorem prE_append (w v : List Edge) : prE (w ++ v) = prE w * prE v := by unfold prE; rw [List.map_append, pr_append]
theorem prE_snoc (w : List Edge) (e : Edge) : prE (w ++ [e]) = prE w * vR e.q := by
  rw [prE_append]
  show _ * (vR e.q * 1) = _
  rw [Rat.mul_one]
theorem prE_nil : prE [] = 1 := rfl
/-- A ratio of positive numbers in its lowest terms. -/
def redR (r : Ratio) : Prop := 1 ≤ r.n ∧ 1 ≤ r.d ∧ Int.gcd r.d r.n = 1
theorem red_pos {r : Ratio} (h : redR r) : 0 < vR r := vq_pos (by have := h.1; omega) (by have := h.2.1; omega)
theorem red_eq {a b : Ratio} (ha : redR a) (hb : redR b) (h : vR a = vR b) : a = b := by
  obtain ⟨e1, e2⟩ := vq_eq (by have := ha.2.1; omega) (by have := hb.2.1; omega) ha.2.2 hb.2.2 h
  cases a; cases b; simp only at e1 e2; rw [e1, e2]
theorem ltR_iff {a b : Ratio} (ha : 1 ≤ a.d) (hb : 1 ≤ b.d) : ltR a b = true ↔ vR a < vR b := by
  unfold ltR vR
  rw [vq_lt (by omega) (by omega), decide_eq_true_eq]
theorem low_red {n d : Int} (hn : 1 ≤ n) (hd : 1 ≤ d) : redR (lowR n d) ∧ vR (lowR n d) = vq n d := by
  obtain ⟨a, rfl⟩ := Int.eq_ofNat_of_zero_le (show 0 ≤ n by omega)
  obtain ⟨b, rfl⟩ := Int.eq_ofNat_of_zero_le (show 0 ≤ d by omega)
  have hg : 0 < a.gcd b := Nat.gcd_pos_of_pos_left b (by omega)
  have e1 : (a : Int) / gcdI a b = ((a / a.gcd b : Nat) : Int) := by simp [gcdI]
  have e2 : (b : Int) / gcdI a b = ((b / a.gcd b : Nat) : Int) := by simp [gcdI]
  have p1 : 0 < a / a.gcd b := Nat.div_pos (Nat.le_of_dvd (by omega) (Nat.gcd_dvd_left a b)) hg
  have p2 : 0 < b / a.gcd b := Nat.div_pos (Nat.le_of_dvd (by omega) (Nat.gcd_dvd_right a b)) hg
  refine ⟨⟨?_, ?_, ?_⟩, ?_⟩
  · show 1 ≤ (a : Int) / gcdI a b
    rw [e1]; omega
  · show 1 ≤ (b : Int) / gcdI a b
    rw [e2]; omega
  · show Int.gcd ((b : Int) / gcdI a b) ((a : Int) / gcdI a b) = 1
    rw [e1, e2, Int.gcd_natCast_natCast, Nat.gcd_comm]
    exact Nat.coprime_div_gcd_div_gcd hg
  · unfold vR lowR
    refine vq_low (by simp only [gcdI, Int.toNat_natCast]; omega) ?_ ?_
    · simp only [gcdI, Int.toNat_natCast]; exact Int.natCast_dvd_natCast.2 (Nat.gcd_dvd_left a b)
    · simp only [gcdI, Int.toNat_natCast]; exact Int.natCast_dvd_natCast.2 (Nat.gcd_dvd_right a b)
/-- A chain is what a walk comes to. -/
def RealC (es : List Edge) (src n b : Nat) (c : Chn) : Prop := ∃ w, w.length = n ∧ Wk es src w b ∧ vR c.q = prE w ∧ c.why = w.map Edge.why ∧ redR c.q
theorem real_with {es : List Edge} {src n : Nat} {c : Chn} {e : Edge} (hb : edgeB e) (he : e ∈ es) (h : RealC es src n e.src.toNat c) : RealC es src (n + 1) e.dst.toNat (withC c e) ∧ vR (withC c e).q = vR c.q * vR e.q := by
  obtain ⟨w, h1, h2, h3, h4, h5⟩ := h
  have hn : 1 ≤ c.q.n * e.q.n := by have := Int.mul_le_mul h5.1 hb.2.2.2.2.1 (by omega) (by have := h5.1; omega); omega
  have hd : 1 ≤ c.q.d * e.q.d := by have := Int.mul_le_mul h5.2.1 hb.2.2.2.2.2.2.1 (by omega) (by have := h5.2.1; omega); omega
  obtain ⟨l1, l2⟩ := low_red hn hd
  have hv : vR (withC c e).q = vR c.q * vR e.q := by
    unfold vR withC
    simp only
    rw [show vq (lowR (c.q.n * e.q.n) (c.q.d * e.q.d)).n (lowR (c.q.n * e.q.n) (c.q.d * e.q.d)).d = vR (lowR (c.q.n * e.q.n) (c.q.d * e.q.d)) from rfl, l2, vq_mul]
  refine ⟨⟨w ++ [e], by simp [h1], wk_snoc h2 he, by rw [hv, prE_snoc, h3], by simp [withC, h4], l1⟩, hv⟩
def redN (net : Net) : Prop := ∀ (j : Nat) (c : Chn), net[j]? = some (some c) → redR c.q
theorem put_self {next : Net} {j : Nat} {c : Chn} (hj : j < next.length) (hr : redN next) (hc : redR c.q) :
    ∃ c', (putE next j c)[j]? = some (some c') ∧ vR c'.q ≤ vR c.q ∧ (c' = c ∨ next[j]? = some (some c')) ∧ ∀ b, next[j]? = some (some b) → vR c'.q ≤ vR b.q := by
  unfold putE
  split
  · rename_i b hb
    have hbr := hr j b hb
    split
    · rename_i hlt
      have := (ltR_iff hc.2.1 hbr.2.1).1 hlt
      refine ⟨c, by rw [List.getElem?_set]; simp [hj], Rat.le_refl, .inl rfl, fun b' hb' => ?_⟩
      rw [hb] at hb'; cases hb'
      exact Rat.le_of_lt this
    · rename_i hlt
      refine ⟨b, hb, ?_, .inr hb, fun b' hb' => by rw [hb] at hb'; cases hb'; exact Rat.le_refl⟩
      rw [← Rat.not_lt]
      exact fun h => hlt ((ltR_iff hc.2.1 hbr.2.1).2 h)
  · rename_i hno
    exact ⟨c, by rw [List.getElem?_set]; simp [hj], Rat.le_refl, .inl rfl, fun b hb => absurd hb (fun h => hno b h)⟩
theorem put_other {next : Net} {i j : Nat} {c : Chn} (h : i ≠ j) : (putE next j c)[i]? = next[i]? := by
  unfold putE
  split
  · split
    · rw [List.getElem?_set_ne (Ne.symm h)]
    · rfl
  · rw [List.getElem?_set_ne (Ne.symm h)]
theorem put_len {next : Net} {j : Nat} {c : Chn} : (putE next j c).length = next.length := by
  unfold putE; split <;> (try split) <;> simp
theorem put_red {next : Net} {j : Nat} {c : Chn} (hr : redN next) (hc : redR c.q) : redN (putE next j c) := by
  intro i c' hi
  by_cases h : i = j
  · subst h
    by_cases hl : i < next.length
    · obtain ⟨d, h1, _, h3, _⟩ := put_self hl hr hc
      rw [h1] at hi; cases hi
      rcases h3 with rfl | h3
      · exact hc
      · exact hr _ _ h3
    · have : (putE next i c).length ≤ i := by rw [put_len]; omega
      rw [List.getElem?_eq_none this] at hi; cases hi
  · rw [put_other h] at hi; exact hr _ _ hi
/-- All that a net says of walks of n zx. -/
def Exact (es : List Edge) (src n : Nat) (net : Net) : Prop := net.length = 5 ∧ (∀ b c, net[b]? = some (some c) → RealC es src n b c) ∧ ∀ b w, w.length = n → Wk es src w b → ∃ c, net[b]? = some (some c) ∧ vR c.q ≤ prE w
def Half (es : List Edge) (src n : Nat) (now : Net) (done : List Edge) (next : Net) : Prop :=
  next.length = 5 ∧ (∀ b c, next[b]? = some (some c) → RealC es src (n + 1) b c) ∧ ∀ e ∈ done, ∀ c', now[e.src.toNat]? = some (some c') → ∃ c, next[e.dst.toNat]? = some (some c) ∧ vR c.q ≤ vR c'.q * vR e.q
theorem real_red {es : List Edge} {src n b : Nat} {c : Chn} (h : RealC es src n b c) : redR c.q := h.choose_spec.2.2.2.2
theorem half_step {es : List Edge} {src n : Nat} {now next : Net} {done : List Edge} {e : Edge} (hnow : Exact es src n now) (hb : edgeB e) (he : e ∈ es) (h : Half es src n now done next) : Half es src n now (done ++ [e]) (stepE now next e) := by
  obtain ⟨h1, h2, h3⟩ := h
  have hr : redN next := fun j c hj => real_red (h2 j c hj)
  have hdst : e.dst.toNat < next.length := by have := hb.2.2.1; have := hb.2.2.2.1; omega
  unfold stepE
  split
  · rename_i c0 hc0
    obtain ⟨r1, r2⟩ := real_with hb he (hnow.2.1 _ _ hc0)
    obtain ⟨c', s1, s2, s3, s4⟩ := put_self hdst hr (real_red r1)
    refine ⟨by rw [put_len]; exact h1, fun b c hbc => ?_, fun e' he' c1 hc1 => ?_⟩
    · by_cases hbe : b = e.dst.toNat
      · subst hbe
        rw [s1] at hbc; cases hbc
        rcases s3 with rfl | s3
        · exact r1
        · exact h2 _ _ s3
      · rw [put_other hbe] at hbc; exact h2 _ _ hbc
    · rcases List.mem_append.1 he' with he' | he'
      · obtain ⟨c2, k1, k2⟩ := h3 e' he' c1 hc1
        by_cases hbe : e'.dst.toNat = e.dst.toNat
        · rw [hbe] at k1 ⊢
          exact ⟨c', s1, Rat.le_trans (s4 c2 k1) k2⟩
        · exact ⟨c2, by rw [put_other hbe]; exact k1, k2⟩
      · rcases List.mem_singleton.1 he' with rfl
        rw [hc0] at hc1; cases hc1
        exact ⟨c', s1, by rw [← r2]; exact s2⟩
  · rename_i hno
    refine ⟨h1, h2, fun e' he' c1 hc1 => ?_⟩
    rcases List.mem_append.1 he' with he' | he'
    · exact h3 e' he' c1 hc1
    · rcases List.mem_singleton.1 he' with rfl
      exact absurd hc1 (hno c1)
theorem half_fold {es : List Edge} {src n : Nat} {now : Net} (hnow : Exact es src n now) : ∀ (l done : List Edge) (next : Net), (∀ e ∈ l, edgeB e ∧ e ∈ es) → Half es src n now done next → Half es src n now (done ++ l) (l.foldl (stepE now) next)
  | [], done, next, _, h => by rw [List.append_nil]; exact h
  | e :: l, done, next, hl, h => by
    have := half_fold hnow l (done ++ [e]) (stepE now next e) (fun e' he' => hl e' (List.mem_cons_of_mem _ he')) (half_step hnow (hl e (by simp)).1 (hl e (by simp)).2 h)
    rw [List.append_assoc] at this
    exact this
theorem edge_pos {e : Edge} (h : edgeB e) : 0 < vR e.q := vq_pos (by have := h.2.2.2.2.1; omega) (by have := h.2.2.2.2.2.2.1; omega)
theorem snoc_of {w : List Edge} {n : Nat} (h : w.length = n + 1) : ∃ v e, w = v ++ [e] ∧ v.length = n := by
  have hne : w ≠ [] := by intro h'; rw [h'] at h; simp at h
  refine ⟨w.dropLast, w.getLast hne, (List.dropLast_concat_getLast hne).symm, ?_⟩
  rw [List.length_dropLast]; omega
theorem exact_step {es : List Edge} {src n : Nat} {now : Net} (hes : ∀ e ∈ es, edgeB e) (hnow : Exact es src n now) : Exact es src (n + 1) (es.foldl (stepE now) zT) := by
  have h0 : Half es src n now [] zT := ⟨rfl, fun b c h => by
    have hm := List.mem_of_getElem? h
    simp [zT] at hm, fun e he => by cases he⟩
  obtain ⟨h1, h2, h3⟩ := half_fold hnow es [] zT (fun e he => ⟨hes e he, he⟩) h0
  rw [List.nil_append] at h3
  refine ⟨h1, h2, fun b w hw hk => ?_⟩
  obtain ⟨v, e, rfl, hv⟩ := snoc_of hw
  obtain ⟨k1, k2, rfl⟩ := wk_unsnoc hk
  obtain ⟨c', g1, g2⟩ := hnow.2.2 _ v hv k1
  obtain ⟨c, f1, f2⟩ := h3 e k2 c' g1
  refine ⟨c, f1, Rat.le_trans f2 ?_⟩
  rw [prE_snoc]
  exact Rat.mul_le_mul_of_nonneg_right g2 (Rat.le_of_lt (edge_pos (hes e k2)))
theorem merge_spec : ∀ (l : List (Option Chn)) (i : Nat) (out : Net), i + l.length ≤ out.length → redN out → (∀ c, some c ∈ l → redR c.q) →
    (mergeL l i out).length = out.length ∧ redN (mergeL l i out) ∧ ∀ b,
      (∀ c, (mergeL l i out)[b]? = some (some c) → out[b]? = some (some c) ∨ (i ≤ b ∧ l[b - i]? = some (some c))) ∧
      (∀ c, out[b]? = some (some c) → ∃ c', (mergeL l i out)[b]? = some (some c') ∧ vR c'.q ≤ vR c.q) ∧
      (∀ c, i ≤ b → l[b - i]? = some (some c) → ∃ c', (mergeL l i out)[b]? = some (some c') ∧ vR c'.q ≤ vR c.q)
  | [], i, out, _, hr, _ => ⟨rfl, hr, fun b => ⟨fun c h => .inl h, fun c h => ⟨c, h, Rat.le_refl⟩, fun c _ h => by cases h⟩⟩
  | none :: r, i, out, hl, hr, hc => by
    obtain ⟨m1, m2, m3⟩ := merge_spec r (i + 1) out (by simp at hl; omega) hr (fun c h => hc c (List.mem_cons_of_mem _ h))
    refine ⟨m1, m2, fun b => ⟨fun c h => ?_, (m3 b).2.1, fun c hib h => ?_⟩⟩
    · rcases (m3 b).1 c h with h | ⟨h, h'⟩
      · exact .inl h
      · refine .inr ⟨by omega, ?_⟩
        rw [show b - i = (b - (i + 1)) + 1 by omega, List.getElem?_cons_succ]; exact h'
    · by_cases hb : b = i
      · subst hb; rw [Nat.sub_self, List.getElem?_cons_zero] at h; cases h
      · refine (m3 b).2.2 c (by omega) ?_
        rw [show b - i = (b - (i + 1)) + 1 by omega, List.getElem?_cons_succ] at h; exact h
  | some c0 :: r, i, out, hl, hr, hc => by
    have hc0 := hc c0 (by simp)
    have hi : i < out.length := by simp at hl; omega
    obtain ⟨m1, m2, m3⟩ := merge_spec r (i + 1) (putE out i c0) (by rw [put_len]; simp at hl; omega) (put_red hr hc0) (fun c h => hc c (List.mem_cons_of_mem _ h))
    obtain ⟨d, s1, s2, s3, s4⟩ := put_self hi hr hc0
    refine ⟨by rw [← put_len (next := out) (j := i) (c := c0)]; exact m1, m2, fun b => ⟨fun c h => ?_, fun c h => ?_, fun c hib h => ?_⟩⟩
    · rcases (m3 b).1 c h with h | ⟨h, h'⟩
      · by_cases hb : b = i
        · subst hb
          rw [s1] at h; cases h
          rcases s3 with rfl | s3
          · exact .inr ⟨Nat.le_refl _, by rw [Nat.sub_self]; rfl⟩
          · exact .inl s3
        · rw [put_other hb] at h; exact .inl h
      · refine .inr ⟨by omega, ?_⟩
        rw [show b - i = (b - (i + 1)) + 1 by omega, List.getElem?_cons_succ]; exact h'
    · by_cases hb : b = i
      · subst hb
        obtain ⟨c', k1, k2⟩ := (m3 b).2.1 d s1
        exact ⟨c', k1, Rat.le_trans k2 (s4 c h)⟩
      · exact (m3 b).2.1 c (by rw [put_other hb]; exact h)
    · by_cases hb : b = i
      · subst hb
        rw [Nat.sub_self, List.getElem?_cons_zero] at h; cases h
        obtain ⟨c', k1, k2⟩ := (m3 b).2.1 d s1
        exact ⟨c', k1, Rat.le_trans k2 s2⟩
      · refine (m3 b).2.2 c (by omega) ?_
        rw [show b - i = (b - (i + 1)) + 1 by omega, List.getElem?_cons_succ] at h; exact h
/-- All that a net says of walks of at most n zx. -/
def Upto (es : List Edge) (src n : Nat) (out : Net) : Prop := out.length = 5 ∧ (∀ b c, out[b]? = some (some c) → ∃ m, 1 ≤ m ∧ m ≤ n ∧ RealC es src m b c) ∧ ∀ b w, 1 ≤ w.length → w.length ≤ n → Wk es src w b → ∃ c, out[b]? = some (some c) ∧ vR c.q ≤ prE w
theorem rounds_spec {es : List Edge} {src : Nat} (hes : ∀ e ∈ es, edgeB e) : ∀ (j n : Nat) (now out : Net), Exact es src n now → Upto es src n out → Upto es src (n + j) (roundsN es j now out)
  | 0, _, _, _, _, h => h
  | j + 1, n, now, out, hnow, hout => by
    have hx := exact_step hes hnow
    have hro : redN out := fun b c h => by
      obtain ⟨m, _, _, h⟩ := hout.2.1 b c h
      exact real_red h
    have hrx : ∀ c, some c ∈ es.foldl (stepE now) zT → redR c.q := fun c h => by
      obtain ⟨b, hb⟩ := List.mem_iff_getElem?.1 h
      exact real_red (hx.2.1 b c hb)
    obtain ⟨m1, m2, m3⟩ := merge_spec (es.foldl (stepE now) zT) 0 out (by rw [hx.1, hout.1]; omega) hro hrx
    have hu : Upto es src (n + 1) (mergeL (es.foldl (stepE now) zT) 0 out) := by
      refine ⟨by rw [m1]; exact hout.1, fun b c h => ?_, fun b w h1 h2 hk => ?_⟩
      · rcases (m3 b).1 c h with h | ⟨_, h⟩
        · obtain ⟨m, k1, k2, k3⟩ := hout.2.1 b c h
          exact ⟨m, k1, by omega, k3⟩
        · exact ⟨n + 1, by omega, Nat.le_refl _, hx.2.1 b c h⟩
      · by_cases hw : w.length = n + 1
        · obtain ⟨c, k1, k2⟩ := hx.2.2 b w hw hk
          obtain ⟨c', g1, g2⟩ := (m3 b).2.2 c (Nat.zero_le _) k1
          exact ⟨c', g1, Rat.le_trans g2 k2⟩
        · obtain ⟨c, k1, k2⟩ := hout.2.2 b w h1 (by omega) hk
          obtain ⟨c', g1, g2⟩ := (m3 b).2.1 c k1
          exact ⟨c', g1, Rat.le_trans g2 k2⟩
    have := rounds_spec hes j (n + 1) _ _ hx hu
    rw [show n + (j + 1) = n + 1 + j by omega]
    exact this
theorem chains_spec {es : List Edge} {src : Nat} (hes : ∀ e ∈ es, edgeB e) (hs : src < 5) (most : Nat) : Upto es src most (zK es src most) := by
  have h0 : Exact es src 0 (zT.set src (some ⟨⟨1, 1⟩, []⟩)) := by
    refine ⟨by simp [zT], fun b c h => ?_, fun b w hw hk => ?_⟩
    · by_cases hb : b = src
      · subst hb
        rw [List.getElem?_set] at h
        simp only [if_true] at h
        split at h
        · cases h
          exact ⟨[], rfl, wk_nil _ _, vq_one, rfl, by decide, by decide, by decide⟩
        · cases h
      · rw [List.getElem?_set_ne (Ne.symm hb)] at h
        have hm := List.mem_of_getElem? h
        simp [zT] at hm
    · have : w = [] := List.length_eq_zero_iff.1 hw
      subst this
      have : src = b := hk.1
      subst this
      exact ⟨⟨⟨1, 1⟩, []⟩, by rw [List.getElem?_set]; simp [zT, hs], by show vq 1 1 ≤ 1; rw [vq_one]; exact Rat.le_refl⟩
  have h1 : Upto es src 0 zT := by
    refine ⟨rfl, fun b c h => ?_, fun b w h1 h2 => by omega⟩
    have hm := List.mem_of_getElem? h
    simp [zT] at hm
  have := rounds_spec hes most 0 _ _ h0 h1
  rw [Nat.zero_add] at this
  exact this
end Go.VS
/-
  What a paper allows: least quotients between any two nodes. (A text of this claim's own; nothing of it is trusted.)
-/
namespace Go.VS
open Go Go.VS.Walks
theorem edge_nodes {p : Paper} (hok : zr p = true) {ax : Int} {e : Edge} (he : e ∈ zx p ax) : edgeB e ∧ e.src ≤ p.sheets ∧ e.dst ≤ p.sheets := by
  obtain ⟨o1, o2, o3, o4, o5, o6⟩ := zD hok
  simp only [zx, List.mem_append, List.mem_flatMap, List.mem_range'_1] at he
  rcases he with (⟨i, hi, he⟩ | he) | he
  · simp [sheetE] at he
    unfold edgeB
    rcases he with rfl | rfl <;> simp only [] <;> omega
  · obtain ⟨m, k, h1, h2, h3⟩ := marksE_mem ax he
    refine ⟨edge_of_mark (o5 m h1) o2 k e h3, ?_⟩
    have := o5 m h1
    simp [markOK, zz, zR, isSeen] at this
    simp [markE] at h3
    rcases h3 with rfl | rfl <;> simp only [] <;> omega
  · obtain ⟨m, k, h1, h2, h3⟩ := joinsE_mem ax he
    refine ⟨edge_of_join (o6 m h1) o2 k e h3, ?_⟩
    have := o6 m h1
    simp [joinOK, zz, zR, isSeen] at this
    simp [joinE] at h3
    rcases h3 with rfl | rfl <;> simp only [] <;> omega
theorem inE_walk {es : List Edge} {l : List T} : ∀ {a b : Nat}, Ch (inE es) a l b → ∃ w, w.map tE = l ∧ Wk es a w b := by
  induction l with
  | nil => intro a b h; exact ⟨[], rfl, h, fun _ h => by cases h⟩
  | cons t l ih =>
    intro a b h
    obtain ⟨⟨e, he, rfl⟩, h2, h3⟩ := h
    obtain ⟨w, rfl, hw⟩ := ih h3
    exact ⟨e :: w, rfl, ⟨⟨e, he, rfl⟩, h2, hw.1⟩, fun e' h' => by
      rcases List.mem_cons.1 h' with rfl | h'
      · exact he
      · exact hw.2 e' h'⟩
theorem clash_none {es : List Edge} : ∀ {j i : Nat}, clashFrom es j i = none → ∀ k, i ≤ k → k < i + j → ∀ c, (zK es k 5)[k]? = some (some c) → ltR c.q one1 = false
  | 0, i, _, k, h1, h2, _, _ => by omega
  | j + 1, i, h, k, h1, h2, c, hc => by
    unfold clashFrom at h
    by_cases hk : k = i
    · subst hk
      rw [hc] at h
      simp only at h
      split at h
      · cases h
      · rename_i hx; simpa using hx
    · refine clash_none (j := j) (i := i + 1) ?_ k (by omega) (by omega) c hc
      split at h
      · split at h
        · cases h
        · exact h
      · exact h
theorem in_pos {p : Paper} (hok : zr p = true) {ax : Int} {t : T} (h : inE (zx p ax) t) : 0 < t.w ∧ t.src < 5 ∧ t.dst < 5 := by
  obtain ⟨e, he, rfl⟩ := h
  have hb := (edge_nodes hok he).1
  refine ⟨edge_pos hb, ?_, ?_⟩
  · show e.src.toNat < 5
    have := hb.1; have := hb.2.1; omega
  · show e.dst.toNat < 5
    have := hb.2.2.1; have := hb.2.2.2.1; omega
theorem one_vR : vR one1 = 1 := vq_one
theorem fair {p : Paper} (hok : zr p = true) {ax : Int} (hc : clashA p ax = none) : Walks.Fair (inE (zx p ax)) 5 := by
  obtain ⟨o1, o2, -⟩ := zD hok
  intro a l hl hlen
  obtain ⟨w, rfl, hw⟩ := inE_walk hl
  cases w with
  | nil => exact Rat.le_refl
  | cons e w =>
    have hin : e ∈ zx p ax := hw.2 e (by simp)
    have hsrc : e.src.toNat = a := hl.2.1
    obtain ⟨hb, hs, _⟩ := edge_nodes hok hin
    have h5 : a < 5 := by have := hb.1; have := hb.2.1; omega
    obtain ⟨c, c1, c2⟩ := (chains_spec (fun e he => (edge_nodes hok he).1) h5 5).2.2 a (e :: w) (by simp) (by simpa using hlen) hw
    have hr : redR c.q := by
      obtain ⟨m, _, _, h⟩ := (chains_spec (fun e he => (edge_nodes hok he).1) h5 5).2.1 a c c1
      exact real_red h
    have hn := clash_none hc a (Nat.zero_le _) (by have := hb.1; omega) c c1
    have : ¬ vR c.q < vR one1 := fun h => by
      rw [← ltR_iff hr.2.1 (by decide)] at h
      rw [hn] at h; cases h
    rw [Rat.not_lt, one_vR] at this
    exact Rat.le_trans this c2
/-- The least quotient between two nodes. -/
def distF (p : Paper) (ax : Int) (s t : Nat) : Ratio := if s = t then one1 else (chnOr (((zK (zx p ax) s 4)[t]?).join)).q
def distC (p : Paper) (ax : Int) (s t : Nat) : Chn := chnOr (((zK (zx p ax) s 4)[t]?).join)
theorem walk_some {p : Paper} (_ : zr p = true) (ax : Int) {s t : Nat} (hs : s < 1 + p.sheets) (ht : t < 1 + p.sheets) (hst : s ≠ t) : ∃ w, 1 ≤ w.length ∧ w.length ≤ 2 ∧ Wk (zx p ax) s w t := by
  have hin : ∀ i : Nat, (i : Int) < p.sheets → ∀ e ∈ sheetE i, e ∈ zx p ax := by
    intro i hi e he
    simp only [zx, List.mem_append, List.mem_flatMap, List.mem_range'_1]
    exact .inl (.inl ⟨i, by omega, he⟩)
  have out : ∀ i : Nat, (i : Int) < p.sheets → Wk (zx p ax) (1 + i) [⟨1 + i, 0, ⟨2, 1⟩, ⟨false, -1 - i, false⟩⟩] 0 := by
    intro i hi
    have := wk_one (hin i hi ⟨1 + i, 0, ⟨2, 1⟩, ⟨false, -1 - i, false⟩⟩ (by simp [sheetE]))
    rwa [show ((1 + (i : Int)).toNat) = 1 + i by omega] at this
  have back : ∀ i : Nat, (i : Int) < p.sheets → Wk (zx p ax) 0 [⟨0, 1 + i, ⟨2, 1⟩, ⟨false, -1 - i, true⟩⟩] (1 + i) := by
    intro i hi
    have := wk_one (hin i hi ⟨0, 1 + i, ⟨2, 1⟩, ⟨false, -1 - i, true⟩⟩ (by simp [sheetE]))
    rwa [show ((1 + (i : Int)).toNat) = 1 + i by omega] at this
  rcases Nat.eq_zero_or_pos s with rfl | hs0
  · have := back (t - 1) (by omega)
    rw [show 1 + (t - 1) = t by omega] at this
    exact ⟨_, by simp, by simp, this⟩
  · have h1 := out (s - 1) (by omega)
    rw [show 1 + (s - 1) = s by omega] at h1
    rcases Nat.eq_zero_or_pos t with rfl | ht0
    · exact ⟨_, by simp, by simp, h1⟩
    · have h2 := back (t - 1) (by omega)
      rw [show 1 + (t - 1) = t by omega] at h2
      exact ⟨_, by simp, by simp, wk_append h1 h2⟩
theorem dist_some {p : Paper} (hok : zr p = true) (ax : Int) {s t : Nat} (hs : s < 1 + p.sheets) (ht : t < 1 + p.sheets) (hst : s ≠ t) : (zK (zx p ax) s 4)[t]? = some (some (distC p ax s t)) := by
  obtain ⟨o1, o2, -⟩ := zD hok
  obtain ⟨w, w1, w2, w3⟩ := walk_some hok ax hs ht hst
  obtain ⟨c, h, _⟩ := (chains_spec (fun e he => (edge_nodes hok he).1) (show s < 5 by omega) 4).2.2 t w w1 (by omega) w3
  unfold distC
  rw [h]; rfl
/-- What is known of a least quotient. -/
theorem dist_real {p : Paper} (hok : zr p = true) (ax : Int) {s t : Nat} (hs : s < 1 + p.sheets) (ht : t < 1 + p.sheets) : redR (distF p ax s t) ∧ ∃ w, Wk (zx p ax) s w t ∧ w.length ≤ 4 ∧ vR (distF p ax s t) = prE w := by
  obtain ⟨o1, o2, -⟩ := zD hok
  by_cases hst : s = t
  · subst hst
    unfold distF
    rw [if_pos rfl]
    exact ⟨⟨by decide, by decide, by decide⟩, [], wk_nil _ _, by simp, one_vR⟩
  · obtain ⟨m, m1, m2, w, w1, w2, w3, w4, w5⟩ := (chains_spec (fun e he => (edge_nodes hok he).1) (show s < 5 by omega) 4).2.1 t _ (dist_some hok ax hs ht hst)
    unfold distF
    rw [if_neg hst]
    exact ⟨w5, w, w2, by omega, w3⟩
theorem dist_least {p : Paper} (hok : zr p = true) {ax : Int} (hc : clashA p ax = none) {s t : Nat} (hs : s < 1 + p.sheets) (ht : t < 1 + p.sheets) {w : List Edge} (hw : Wk (zx p ax) s w t) : vR (distF p ax s t) ≤ prE w := by
  obtain ⟨o1, o2, -⟩ := zD hok
  have hp : ∀ t, inE (zx p ax) t → 0 < t.w := fun t h => (in_pos hok h).1
  have hn : ∀ t, inE (zx p ax) t → t.src < 5 ∧ t.dst < 5 := fun t h => (in_pos hok h).2
  by_cases hst : s = t
  · subst hst
    unfold distF
    rw [if_pos rfl, one_vR]
    exact closed_one hp hn (fair hok hc) hw.1
  · obtain ⟨r, r1, r2, r3, _⟩ := shorten hp hn (fair hok hc) _ _ (Nat.le_refl _) hw.1
    obtain ⟨v, rfl, hv⟩ := inE_walk r1
    have hne : v ≠ [] := by
      rintro rfl
      exact hst hv.1
    have hlen : 1 ≤ v.length ∧ v.length ≤ 4 := by
      constructor
      · cases v with
        | nil => exact absurd rfl hne
        | cons _ _ => simp
      · rcases r2 with r2 | r2
        · simp at r2; omega
        · simp at r2; exact absurd r2 hne
    obtain ⟨c, c1, c2⟩ := (chains_spec (fun e he => (edge_nodes hok he).1) (show s < 5 by omega) 4).2.2 t v hlen.1 hlen.2 hv
    rw [dist_some hok ax hs ht hst] at c1
    cases c1
    unfold distF
    rw [if_neg hst]
    exact Rat.le_trans c2 r3
end Go.VS
/-
  What Factor and Between answer, in the words of least quotients. (A text of this claim's own; nothing of it is trusted.)
-/
namespace Go.VS
open Go Go.VS.Walks
theorem t19x (p : Paper) (a b ax : Int) (hwf : p.wf) : ∃ (r : Ratio) (k : Int), (lim cfg).pure 19 [zN p, I a, I b, I ax] = some (.tup [.agg [I r.n, I r.d], I k]) ∧ (k = 0 ↔ knownF p ax [a, b] = 0) ∧ (knownF p ax [a, b] = 0 → r = betwF p a b ax) := by
  have h := t19 p a b ax hwf
  by_cases hk : knownF p ax [a, b] = 0
  · rw [if_pos hk] at h
    exact ⟨betwF p a b ax, 0, h, by simp [hk], fun _ => rfl⟩
  · rw [if_neg hk] at h
    exact ⟨⟨0, 0⟩, _, h, Iff.rfl, fun h' => absurd h' hk⟩
theorem t20x (p : Paper) (s ax : Int) (hwf : p.wf) : ∃ (lo hi : Ratio) (k : Int), (lim cfg).pure 20 [zN p, I s, I ax] = some (.tup [.agg [I lo.n, I lo.d], .agg [I hi.n, I hi.d], I k]) ∧ (k = 0 ↔ knownF p ax [s] = 0) ∧ (knownF p ax [s] = 0 → lo = loF p s ax ∧ hi = hiF p s ax) := by
  have h := t20 p s ax hwf
  by_cases hk : knownF p ax [s] = 0
  · rw [if_pos hk] at h
    exact ⟨loF p s ax, hiF p s ax, 0, h, by simp [hk], fun _ => ⟨rfl, rfl⟩⟩
  · rw [if_neg hk] at h
    exact ⟨⟨0, 0⟩, ⟨0, 0⟩, _, h, Iff.rfl, fun h' => absurd h' hk⟩
theorem poss_none {p : Paper} (h : possibleF p = true) {ax : Int} (hax : zR ax = true) : clashA p ax = none := by
  simp [possibleF] at h
  simp [zR] at hax
  rcases hax with rfl | rfl
  · exact h.1
  · exact h.2
theorem sheet_nat {p : Paper} {s : Int} (h : zz p s = true) : ∃ i : Nat, s = i ∧ (1 + i : Nat) < 1 + p.sheets ∧ (1 + s).toNat = 1 + i := by
  simp [zz] at h
  exact ⟨s.toNat, by omega, by omega, by omega⟩
theorem betw_dist (p : Paper) (ax : Int) (i j : Nat) : betwF p i j ax = distF p ax (1 + i) (1 + j) := by
  unfold betwF distF
  rw [show (1 + (i : Int)).toNat = 1 + i by omega, show (1 + (j : Int)).toNat = 1 + j by omega]
  by_cases h : i = j
  · subst h; simp
  · rw [if_neg (by omega), if_neg (by omega)]
theorem hi_dist (p : Paper) (ax : Int) (i : Nat) : hiF p i ax = distF p ax (1 + i) 0 := by
  unfold hiF downF downO distF
  rw [show (1 + (i : Int)).toNat = 1 + i by omega, if_neg (by omega)]
theorem dist_tri {p : Paper} (hok : zr p = true) {ax : Int} (hc : clashA p ax = none) {a b c : Nat} (ha : a < 1 + p.sheets) (hb : b < 1 + p.sheets) (hcc : c < 1 + p.sheets) : vR (distF p ax a c) ≤ vR (distF p ax a b) * vR (distF p ax b c) := by
  obtain ⟨_, w, w1, _, w2⟩ := dist_real hok ax ha hb
  obtain ⟨_, v, v1, _, v2⟩ := dist_real hok ax hb hcc
  rw [w2, v2, ← prE_append]
  exact dist_least hok hc ha hcc (wk_append w1 v1)
end Go.VS
/-
  The least factor in the words of least quotients. (A text of this claim's own; nothing of it is trusted.)
-/
namespace Go.VS
open Go Go.VS.Walks
theorem lo_dist2 (p : Paper) (ax : Int) (i : Nat) : loF p i ax = ⟨(distF p ax 0 (1 + i)).d, (distF p ax 0 (1 + i)).n⟩ := by
  unfold loF upF upO distF
  rw [show (1 + (i : Int)).toNat = 1 + i by omega, if_neg (by omega)]
end Go.VS
/-
  How large least quotients are; what a zp times a ratio comes to, rounded. (A text of this claim's own; nothing of it is trusted.)
-/
namespace Go.VS
open Go Go.VS.Walks
def prI (f : Edge → Int) : List Edge → Int
  | [] => 1
  | e :: w => f e * prI f w
theorem prE_frac (w : List Edge) : prE w = vq (prI (fun e => e.q.n) w) (prI (fun e => e.q.d) w) := by
  induction w with
  | nil => exact vq_one.symm
  | cons e w ih =>
    show vR e.q * prE w = _
    rw [ih]
    unfold vR
    rw [vq_mul]
    rfl
theorem prI_le {f : Edge → Int} {B : Int} (hB : 1 ≤ B) : ∀ {w : List Edge}, (∀ e ∈ w, 1 ≤ f e ∧ f e ≤ B) → 1 ≤ prI f w ∧ prI f w ≤ B ^ w.length
  | [], _ => ⟨Int.le_refl _, by simp [prI]⟩
  | e :: w, h => by
    obtain ⟨i1, i2⟩ := prI_le hB (w := w) fun e' h' => h e' (List.mem_cons_of_mem _ h')
    obtain ⟨a, b⟩ := h e (by simp)
    constructor
    · have := Int.mul_le_mul a i1 (by omega) (by omega)
      show 1 ≤ f e * prI f w
      omega
    · show f e * prI f w ≤ B ^ (w.length + 1)
      rw [Int.pow_succ, Int.mul_comm]
      exact Int.mul_le_mul i2 b (by omega) (by have := Int.pow_pos (n := B) (m := w.length) (by omega); omega)
theorem den_le {r : Ratio} (hr : redR r) {N M : Int} (hM : 1 ≤ M) (h : vR r = vq N M) : r.d ≤ M := by
  obtain ⟨h1, h2, h3⟩ := hr
  have e1 := (vq_le (n := r.n) (d := r.d) (n' := N) (d' := M) (by omega) (by omega)).1 (by rw [← h]; exact Rat.le_refl)
  have e2 := (vq_le (n := N) (d := M) (n' := r.n) (d' := r.d) (by omega) (by omega)).1 (by rw [← h]; exact Rat.le_refl)
  have e : r.n * M = N * r.d := by omega
  obtain ⟨n, hn⟩ := Int.eq_ofNat_of_zero_le (show 0 ≤ r.n by omega)
  obtain ⟨d, hd⟩ := Int.eq_ofNat_of_zero_le (show 0 ≤ r.d by omega)
  obtain ⟨m, hm⟩ := Int.eq_ofNat_of_zero_le (show 0 ≤ M by omega)
  have hd1 : (d : Int) ∣ (n * m : Nat) := ⟨N, by rw [← hd, Int.natCast_mul, ← hn, ← hm, e, Int.mul_comm]⟩
  have hd2 := Int.natCast_dvd_natCast.1 hd1
  have hc : Nat.Coprime d n := by
    rw [hd, hn] at h3
    simpa [Nat.Coprime] using h3
  have hd3 := Nat.le_of_dvd (by omega) (hc.dvd_of_dvd_mul_left hd2)
  omega
theorem edge_den {p : Paper} (hok : zr p = true) {ax : Int} {e : Edge} (he : e ∈ zx p ax) : 1 ≤ e.q.d ∧ e.q.d ≤ 1000 := by
  obtain ⟨o1, o2, o3, o4, o5, o6⟩ := zD hok
  simp only [zx, List.mem_append, List.mem_flatMap, List.mem_range'_1] at he
  rcases he with (⟨i, hi, he⟩ | he) | he
  · simp [sheetE] at he
    rcases he with rfl | rfl <;> simp only [] <;> omega
  · obtain ⟨m, k, h1, h2, h3⟩ := marksE_mem ax he
    have := o5 m h1
    simp [markOK, zz, zR, isSeen] at this
    simp [markE] at h3
    rcases h3 with rfl | rfl <;> simp only [] <;> omega
  · obtain ⟨m, k, h1, h2, h3⟩ := joinsE_mem ax he
    have := o6 m h1
    simp [joinOK, zz, zR, isSeen] at this
    simp [joinE] at h3
    rcases h3 with rfl | rfl <;> simp only [] <;> omega
theorem dist_den {p : Paper} (hok : zr p = true) (ax : Int) {s t : Nat} (hs : s < 1 + p.sheets) (ht : t < 1 + p.sheets) : (distF p ax s t).d ≤ 1000000000000 := by
  obtain ⟨r, w, w1, w2, w3⟩ := dist_real hok ax hs ht
  rw [prE_frac] at w3
  obtain ⟨a, b⟩ := prI_le (f := fun e => e.q.d) (B := 1000) (by decide) (w := w) fun e he => edge_den hok (w1.2 e he)
  have := den_le r a w3
  have h4 : (1000 : Int) ^ w.length ≤ 1000000000000 := by
    have : w.length = 0 ∨ w.length = 1 ∨ w.length = 2 ∨ w.length = 3 ∨ w.length = 4 := by omega
    rcases this with h | h | h | h | h <;> rw [h] <;> decide
  omega
/-- Ratios as they come up: in lowest terms, between a half and two. -/
def goodQ (r : Ratio) : Prop := redR r ∧ r.n ≤ 2 * r.d ∧ r.d ≤ 2 * r.n ∧ r.n ≤ 2000000000000 ∧ r.d ≤ 2000000000000
theorem goodQ_inv {r : Ratio} (h : goodQ r) : goodQ ⟨r.d, r.n⟩ := by
  obtain ⟨⟨a, b, c⟩, d, e, f, g⟩ := h
  exact ⟨⟨b, a, by rw [Int.gcd_comm]; exact c⟩, e, d, g, f⟩
theorem vR_two {r : Ratio} (hr : redR r) : vR r ≤ 2 ↔ r.n ≤ 2 * r.d := by
  have h2 : vR ⟨2, 1⟩ = 2 := by decide
  rw [← h2]
  unfold vR
  rw [vq_le (by have := hr.2.1; omega) (by decide)]
  constructor <;> intro h <;> simp only [] at h ⊢ <;> omega
section
variable {p : Paper} (hok : zr p = true) {ax : Int} (hc : clashA p ax = none) {i : Nat} (hi : (i : Int) < p.sheets)
include hok hc hi
theorem dist_two : vR (distF p ax (1 + i) 0) ≤ 2 ∧ vR (distF p ax 0 (1 + i)) ≤ 2 := by
  have b1 : ((1 + i : Nat) : Int) < 1 + p.sheets := by omega
  have b0 : ((0 : Nat) : Int) < 1 + p.sheets := by omega
  have hin : ∀ e ∈ sheetE i, e ∈ zx p ax := by
    intro e he
    simp only [zx, List.mem_append, List.mem_flatMap, List.mem_range'_1]
    exact .inl (.inl ⟨i, by omega, he⟩)
  have h2 : vR ⟨2, 1⟩ = 2 := by decide
  have hp1 : ∀ e ∈ sheetE i, prE [e] = 2 := by
    intro e he
    simp [sheetE] at he
    rcases he with rfl | rfl <;> (simp only [prE, pr, tE, List.map_cons, List.map_nil]; rw [h2, Rat.mul_one])
  constructor
  · have hw := wk_one (hin ⟨1 + i, 0, ⟨2, 1⟩, ⟨false, -1 - i, false⟩⟩ (by simp [sheetE]))
    rw [show ((1 + (i : Int)).toNat) = 1 + i by omega] at hw
    have := dist_least hok hc b1 b0 hw
    rwa [hp1 _ (by simp [sheetE])] at this
  · have hw := wk_one (hin ⟨0, 1 + i, ⟨2, 1⟩, ⟨false, -1 - i, true⟩⟩ (by simp [sheetE]))
    rw [show ((1 + (i : Int)).toNat) = 1 + i by omega] at hw
    have := dist_least hok hc b0 b1 hw
    rwa [hp1 _ (by simp [sheetE])] at this
theorem dist_good : goodQ (distF p ax (1 + i) 0) ∧ goodQ (distF p ax 0 (1 + i)) := by
  have b1 : ((1 + i : Nat) : Int) < 1 + p.sheets := by omega
  have b0 : ((0 : Nat) : Int) < 1 + p.sheets := by omega
  obtain ⟨r1, w, w1, -, w3⟩ := dist_real hok ax b1 b0
  obtain ⟨r2, v, v1, -, v3⟩ := dist_real hok ax b0 b1
  obtain ⟨t1, t2⟩ := dist_two hok hc hi
  have d1 := dist_den hok ax b1 b0
  have d2 := dist_den hok ax b0 b1
  have hp : ∀ t, inE (zx p ax) t → 0 < t.w := fun t h => (in_pos hok h).1
  have hn : ∀ t, inE (zx p ax) t → t.src < 5 ∧ t.dst < 5 := fun t h => (in_pos hok h).2
  have hone := closed_one hp hn (fair hok hc) (wk_append w1 v1).1
  have hone' : 1 ≤ vR (distF p ax (1 + i) 0) * vR (distF p ax 0 (1 + i)) := by rw [w3, v3, ← prE_append]; exact hone
  generalize distF p ax (1 + i) 0 = x at *
  generalize distF p ax 0 (1 + i) = y at *
  have x2 := (vR_two r1).1 t1
  have y2 := (vR_two r2).1 t2
  have hx := red_pos r1
  have hy := red_pos r2
  have key : ∀ a b : Ratio, redR a → redR b → vR b ≤ 2 → 1 ≤ vR a * vR b → a.d ≤ 2 * a.n := by
    intro a b ha hb h1 h2
    have h3 := Rat.mul_le_mul_of_nonneg_left h1 (Rat.le_of_lt (red_pos ha))
    have h4 := Rat.le_trans h2 h3
    have h5 : (1 : Rat) = vq 1 1 := vq_one.symm
    have h6 : (2 : Rat) = vq 2 1 := by decide
    rw [h5, h6] at h4
    unfold vR at h4
    rw [vq_mul, vq_le (by decide) (by have := ha.2.1; omega)] at h4
    omega
  exact ⟨⟨r1, x2, key x y r1 r2 t2 hone', by omega, by omega⟩, ⟨r2, y2, key y x r2 r1 t1 (by rw [Rat.mul_comm]; exact hone'), by omega, by omega⟩⟩
theorem hi_good : goodQ (hiF p i ax) := by rw [hi_dist]; exact (dist_good hok hc hi).1
theorem lo_good : goodQ (loF p i ax) := by rw [lo_dist2]; exact goodQ_inv (dist_good hok hc hi).2
end
/-- A zp times a ratio, rounded down, and up. -/
def dnF (x : Int) (r : Ratio) : Int := x * r.n / r.d
def upR (x : Int) (r : Ratio) : Int := if x * r.n % r.d = 0 then x * r.n / r.d else x * r.n / r.d + 1
def outF (s : Span) (a b : Ratio) : Span := ⟨dnF s.lo a, upR s.hi b⟩
def invR (r : Ratio) : Ratio := ⟨r.d, r.n⟩
theorem mul_le2 {x : Int} {r : Ratio} (h0 : 0 ≤ x) (hr : goodQ r) {B : Int} (hB : x ≤ B) : 0 ≤ x * r.n ∧ x * r.n ≤ B * 2000000000000 ∧ 0 ≤ dnF x r ∧ dnF x r ≤ 2 * x := by
  obtain ⟨⟨a, b, c⟩, d, e, f, g⟩ := hr
  have h1 := Int.mul_nonneg h0 (show 0 ≤ r.n by omega)
  refine ⟨h1, Int.mul_le_mul hB f (by omega) (by omega), Int.ediv_nonneg h1 (by omega), ?_⟩
  unfold dnF
  have : x * r.n ≤ 2 * x * r.d := by
    have := Int.mul_le_mul_of_nonneg_left d h0
    rw [← Int.mul_assoc, Int.mul_comm x 2] at this
    exact this
  exact Int.ediv_le_of_le_mul (by omega) this
theorem up_le2 {x : Int} {r : Ratio} (h0 : 0 ≤ x) (hr : goodQ r) : 0 ≤ upR x r ∧ upR x r ≤ 2 * x + 1 ∧ dnF x r ≤ upR x r := by
  obtain ⟨a, b, c, d⟩ := mul_le2 h0 hr (Int.le_refl x)
  unfold upR dnF at *
  split <;> omega
end Go.VS
/-
  Lists of reasons: what they lead to, in the program's words and in the reference's. (A text of this claim's own; nothing of it is trusted.)
-/
namespace Go.VS
open Go Go.VS.Walks
theorem eqW_iff {x y : Reason} : eqW x y = true ↔ x = y := by
  obtain ⟨a, b, c⟩ := x
  obtain ⟨d, e, f⟩ := y
  simp [eqW]
theorem marksE_ix (ax : Int) {e : Edge} : ∀ {l : List Mark} {i : Nat}, e ∈ marksE ax l i → ∃ k m, l[k]? = some m ∧ e ∈ markE m (i + k)
  | [], _, h => by cases h
  | m :: l, i, h => by
    simp only [marksE, List.mem_append] at h
    rcases h with h | h
    · split at h
      · exact ⟨0, m, rfl, h⟩
      · cases h
    · obtain ⟨k, m', h1, h2⟩ := marksE_ix ax h
      exact ⟨k + 1, m', h1, by rw [show i + (k + 1) = i + 1 + k by omega]; exact h2⟩
theorem joinsE_ix (ax : Int) {e : Edge} : ∀ {l : List Join} {i : Nat}, e ∈ joinsE ax l i → ∃ k m, l[k]? = some m ∧ e ∈ joinE m (i + k)
  | [], _, h => by cases h
  | m :: l, i, h => by
    simp only [joinsE, List.mem_append] at h
    rcases h with h | h
    · split at h
      · exact ⟨0, m, rfl, h⟩
      · cases h
    · obtain ⟨k, m', h1, h2⟩ := joinsE_ix ax h
      exact ⟨k + 1, m', h1, by rw [show i + (k + 1) = i + 1 + k by omega]; exact h2⟩
theorem edges_ix {p : Paper} {ax : Int} {e : Edge} (h : e ∈ zx p ax) : (∃ i : Nat, e ∈ sheetE i) ∨ (∃ k m, p.marks[k]? = some m ∧ e ∈ markE m k) ∨ ∃ k m, p.joins[k]? = some m ∧ e ∈ joinE m k := by
  simp only [zx, List.mem_append, List.mem_flatMap, List.mem_range'_1] at h
  rcases h with (⟨i, hi, he⟩ | he) | he
  · exact .inl ⟨i, he⟩
  · obtain ⟨k, m, h1, h2⟩ := marksE_ix ax he
    rw [Nat.zero_add] at h2
    exact .inr (.inl ⟨k, m, h1, h2⟩)
  · obtain ⟨k, m, h1, h2⟩ := joinsE_ix ax he
    rw [Nat.zero_add] at h2
    exact .inr (.inr ⟨k, m, h1, h2⟩)
/-- A reason names one thing along an axis. -/
theorem why_inj {p : Paper} {ax : Int} {e e' : Edge} (h : e ∈ zx p ax) (h' : e' ∈ zx p ax) (hw : e.why = e'.why) : e = e' := by
  rcases edges_ix h with ⟨i, h⟩ | ⟨i, m, hm, h⟩ | ⟨i, m, hm, h⟩ <;> rcases edges_ix h' with ⟨i', h'⟩ | ⟨i', m', hm', h'⟩ | ⟨i', m', hm', h'⟩ <;>
    simp only [sheetE, markE, joinE, List.mem_cons, List.not_mem_nil, or_false] at h h' <;> rcases h with rfl | rfl <;> rcases h' with rfl | rfl <;> simp at hw
  · have : i = i' := by omega
    subst this; rfl
  · have : i = i' := by omega
    subst this; rfl
  · omega
  · omega
  · omega
  · omega
  · have : i = i' := by omega
    subst this; rw [hm] at hm'; cases hm'; rfl
  · have : i = i' := by omega
    subst this; rw [hm] at hm'; cases hm'; rfl
  · have : i = i' := by omega
    subst this; rw [hm] at hm'; cases hm'; rfl
  · have : i = i' := by omega
    subst this; rw [hm] at hm'; cases hm'; rfl
def findW (es : List Edge) (r : Reason) : Option Edge := es.find? fun e => eqW e.why r
theorem find_uniq {α : Type} {P : α → Bool} {l : List α} (hu : ∀ a ∈ l, ∀ b ∈ l, P a = true → P b = true → a = b) {a : α} : l.find? P = some a ↔ a ∈ l ∧ P a = true := by
  constructor
  · intro h; exact ⟨List.mem_of_find?_eq_some h, by have := List.find?_some h; exact this⟩
  · rintro ⟨h1, h2⟩
    cases hf : l.find? P with
    | none => exact absurd h2 (by have := List.find?_eq_none.1 hf a h1; exact this)
    | some b => rw [hu b (List.mem_of_find?_eq_some hf) a h1 (by have := List.find?_some hf; exact this) h2]
theorem findW_iff {p : Paper} {ax : Int} {r : Reason} {e : Edge} : findW (zx p ax) r = some e ↔ e ∈ zx p ax ∧ e.why = r := by
  unfold findW
  rw [find_uniq fun a ha b hb h1 h2 => why_inj ha hb ((eqW_iff.1 h1).trans (eqW_iff.1 h2).symm), eqW_iff]
/-- What a list of reasons leads to. -/
def goG (es : List Edge) (f : Ratio → Edge → Ratio) : List Reason → Bool → Ratio → Int → Int → Option (Int × Int × Ratio)
  | [], _, q, s, a => some (s, a, q)
  | r :: rs, b, q, s, a => match findW es r with
    | none => none
    | some e => if b = false ∧ e.src ≠ a then none else goG es f rs false (f q e) (if b then e.src else s) e.dst
def lowM (q : Ratio) (e : Edge) : Ratio := lowR (q.n * e.q.n) (q.d * e.q.d)
theorem lowM_spec {q : Ratio} {e : Edge} (hq : redR q) (he : edgeB e) : redR (lowM q e) ∧ vR (lowM q e) = vR q * vR e.q := by
  obtain ⟨b1, b2, b3, b4, b5, b6, b7, b8⟩ := he
  have hn := Int.mul_le_mul hq.1 b5 (by omega) (by have := hq.1; omega)
  have hd := Int.mul_le_mul hq.2.1 b7 (by omega) (by have := hq.2.1; omega)
  obtain ⟨x1, x2⟩ := low_red (n := q.n * e.q.n) (d := q.d * e.q.d) (by omega) (by omega)
  refine ⟨x1, ?_⟩
  unfold lowM
  rw [x2, ← vq_mul]; rfl
theorem edge_in {p : Paper} (hok : zr p = true) {ax : Int} {e : Edge} (he : e ∈ zx p ax) : edgeB e ∧ (0 ≤ e.src ∧ e.src ≤ p.sheets) ∧ (0 ≤ e.dst ∧ e.dst ≤ p.sheets) := by
  obtain ⟨h1, h2, h3⟩ := edge_nodes hok he
  exact ⟨h1, ⟨h1.1, h2⟩, ⟨h1.2.2.1, h3⟩⟩
def followO (p : Paper) (ax : Int) (l : List Reason) : Option (Int × Int × Ratio) := if 1 ≤ l.length ∧ l.length ≤ 5 then goG (zx p ax) lowM l true one1 0 0 else none
theorem red_one : redR one1 := ⟨by decide, by decide, by decide⟩
/-- What is known where a list leads on. -/
theorem go_inv {p : Paper} (hok : zr p = true) {ax : Int} : ∀ (l : List Reason) (b : Bool) (q : Ratio) (s a : Int) (t : Int × Int × Ratio), goG (zx p ax) lowM l b q s a = some t → redR q → (0 ≤ s ∧ s ≤ p.sheets) → (0 ≤ a ∧ a ≤ p.sheets) → ∀ m : Int, 1 ≤ m → q.n ≤ m → q.d ≤ m → redR t.2.2 ∧ (0 ≤ t.1 ∧ t.1 ≤ p.sheets) ∧ (0 ≤ t.2.1 ∧ t.2.1 ≤ p.sheets) ∧ t.2.2.n ≤ m * 2000 ^ l.length ∧ t.2.2.d ≤ m * 2000 ^ l.length
  | [], b, q, s, a, t, h, hq, hs, ha, m, hm, h1, h2 => by
    cases h
    simp only [List.length_nil, Int.pow_zero, Int.mul_one]
    exact ⟨hq, hs, ha, h1, h2⟩
  | r :: rs, b, q, s, a, t, h, hq, hs, ha, m, hm, h1, h2 => by
    simp only [goG] at h
    cases hf : findW (zx p ax) r with
    | none => rw [hf] at h; cases h
    | some e =>
      rw [hf] at h
      simp only at h
      obtain ⟨he, -⟩ := findW_iff.1 hf
      obtain ⟨hb, k1, k2⟩ := edge_in hok he
      split at h
      · cases h
      · obtain ⟨b1, b2, b3, b4, b5, b6, b7, b8⟩ := hb
        have p1 := Int.mul_le_mul hq.1 b5 (by omega) (by have := hq.1; omega)
        have p2 := Int.mul_le_mul hq.2.1 b7 (by omega) (by have := hq.2.1; omega)
        have p3 : q.n * e.q.n ≤ m * 2000 := Int.mul_le_mul h1 b6 (by omega) (by omega)
        have p4 : q.d * e.q.d ≤ m * 2000 := Int.mul_le_mul h2 b8 (by omega) (by omega)
        obtain ⟨l1, l2, l3, l4⟩ := low_le (n := q.n * e.q.n) (d := q.d * e.q.d) (by omega) (by omega)
        have := go_inv hok rs false (lowM q e) (if b then e.src else s) e.dst t h (lowM_spec hq ⟨b1, b2, b3, b4, b5, b6, b7, b8⟩).1 (by split <;> assumption) k2 (m * 2000) (by omega) (by unfold lowM; omega) (by unfold lowM; omega)
        rw [List.length_cons, Int.pow_succ, Int.mul_comm (2000 ^ rs.length), ← Int.mul_assoc]
        exact this
theorem follow_inv {p : Paper} (hok : zr p = true) {ax : Int} {l : List Reason} {s a : Int} {q : Ratio} (h : followO p ax l = some (s, a, q)) : redR q ∧ (0 ≤ s ∧ s ≤ p.sheets) ∧ (0 ≤ a ∧ a ≤ p.sheets) ∧ q.n ≤ 32000000000000000 ∧ q.d ≤ 32000000000000000 := by
  unfold followO at h
  obtain ⟨o1, o2, -⟩ := zD hok
  split at h
  · rename_i hl
    obtain ⟨r1, r2, r3, r4, r5⟩ := go_inv hok l true one1 0 0 _ h red_one ⟨by omega, by omega⟩ ⟨by omega, by omega⟩ 1 (by omega) (by decide) (by decide)
    have hp : (2000 : Int) ^ l.length ≤ 32000000000000000 := by
      have : l.length = 1 ∨ l.length = 2 ∨ l.length = 3 ∨ l.length = 4 ∨ l.length = 5 := by omega
      rcases this with h | h | h | h | h <;> rw [h] <;> decide
    exact ⟨r1, r2, r3, by simp only [] at r4; omega, by simp only [] at r5; omega⟩
  · cases h
/-- A walk's reasons lead along it. -/
theorem go_walk {p : Paper} (hok : zr p = true) {ax : Int} : ∀ (w : List Edge) (q : Ratio) (s a : Int) (b : Nat), redR q → (0 ≤ a) → Wk (zx p ax) a.toNat w b → ∃ q', goG (zx p ax) lowM (w.map Edge.why) false q s a = some (s, (b : Int), q') ∧ redR q' ∧ vR q' = vR q * prE w
  | [], q, s, a, b, hq, ha, hw => by
    refine ⟨q, ?_, hq, by rw [show prE [] = 1 from rfl, Rat.mul_one]⟩
    have : a.toNat = b := hw.1
    show some (s, a, q) = _
    rw [← this]
    simp only [Option.some.injEq, Prod.mk.injEq, true_and, and_true]
    omega
  | e :: w, q, s, a, b, hq, ha, hw => by
    have hin := hw.2 e (by simp)
    obtain ⟨hb, h1, h2⟩ := edge_in hok hin
    have hs : e.src.toNat = a.toNat := hw.1.2.1
    obtain ⟨x1, x2⟩ := lowM_spec hq hb
    obtain ⟨q', g1, g2, g3⟩ := go_walk hok w (lowM q e) s e.dst b x1 h2.1 ⟨hw.1.2.2, fun e' h' => hw.2 e' (List.mem_cons_of_mem _ h')⟩
    refine ⟨q', ?_, g2, ?_⟩
    · simp only [List.map_cons, goG]
      rw [findW_iff.2 ⟨hin, rfl⟩]
      simp only []
      rw [if_neg (by intro h; omega)]
      exact g1
    · rw [g3, x2, Rat.mul_assoc]; rfl
theorem follow_walk {p : Paper} (hok : zr p = true) {ax : Int} {w : List Edge} {a b : Nat} (h1 : 1 ≤ w.length) (h5 : w.length ≤ 5) (hw : Wk (zx p ax) a w b) : ∃ q, followO p ax (w.map Edge.why) = some ((a : Int), (b : Int), q) ∧ redR q ∧ vR q = prE w := by
  cases w with
  | nil => simp at h1
  | cons e w =>
    have hin := hw.2 e (by simp)
    obtain ⟨hb, k1, k2⟩ := edge_in hok hin
    have hs : e.src.toNat = a := hw.1.2.1
    obtain ⟨x1, x2⟩ := lowM_spec red_one hb
    obtain ⟨q', g1, g2, g3⟩ := go_walk hok w (lowM one1 e) e.src e.dst b x1 k2.1 ⟨hw.1.2.2, fun e' h' => hw.2 e' (List.mem_cons_of_mem _ h')⟩
    refine ⟨q', ?_, g2, ?_⟩
    · unfold followO
      rw [if_pos (by simp only [List.length_map]; exact ⟨h1, h5⟩)]
      simp only [List.map_cons, goG]
      rw [findW_iff.2 ⟨hin, rfl⟩]
      simp only []
      rw [if_neg (by rintro ⟨h, -⟩; simp at h)]
      simp only [if_true]
      rw [g1]
      rw [show e.src = (a : Int) by omega]
    · rw [g3, x2, one_vR, Rat.one_mul]; rfl
end Go.VS
/-
  What is known along one axis depends on what is said along it alone, in any order. (A text of this claim's own; nothing of it is trusted.)
-/
namespace Go.VS
open Go Go.VS.Walks
theorem ch_mono {E E' : T → Prop} (h : ∀ t, E t → E' t) : ∀ {l : List T} {a b : Nat}, Ch E a l b → Ch E' a l b
  | [], _, _, h' => h'
  | _ :: _, _, _, h' => ⟨h _ h'.1, h'.2.1, ch_mono h h'.2.2⟩
theorem chains_le {es es' : List Edge} (hsub : ∀ t, inE es t → inE es' t) (hb : ∀ e ∈ es, edgeB e) (hb' : ∀ e ∈ es', edgeB e) {s m b : Nat} (hs : s < 5) {c : Chn} (hc : (zK es s m)[b]? = some (some c)) :
    redR c.q ∧ ∃ c', (zK es' s m)[b]? = some (some c') ∧ redR c'.q ∧ vR c'.q ≤ vR c.q := by
  obtain ⟨k, k1, k2, w, w1, w2, w3, w4, w5⟩ := (chains_spec hb hs m).2.1 b c hc
  obtain ⟨v, v1, v2⟩ := inE_walk (ch_mono hsub w2.1)
  have hl : v.length = w.length := by have := congrArg List.length v1; simpa using this
  have hp : prE v = prE w := by unfold prE; rw [v1]
  obtain ⟨c', c1, c2⟩ := (chains_spec hb' hs m).2.2 b v (by omega) (by omega) v2
  refine ⟨w5, c', c1, ?_, by rw [w3, ← hp]; exact c2⟩
  obtain ⟨_, _, _, h⟩ := (chains_spec hb' hs m).2.1 b c' c1
  exact real_red h
theorem chains_same {es es' : List Edge} (h : ∀ t, inE es t ↔ inE es' t) (hb : ∀ e ∈ es, edgeB e) (hb' : ∀ e ∈ es', edgeB e) {s m b : Nat} (hs : s < 5) {c : Chn} (hc : (zK es s m)[b]? = some (some c)) :
    ∃ c', (zK es' s m)[b]? = some (some c') ∧ c'.q = c.q := by
  obtain ⟨r1, c', c1, r2, l1⟩ := chains_le (fun t => (h t).1) hb hb' hs hc
  obtain ⟨_, c'', c2, _, l2⟩ := chains_le (fun t => (h t).2) hb' hb hs c1
  rw [hc] at c2; cases c2
  exact ⟨c', c1, red_eq r2 r1 (Rat.le_antisymm l1 l2)⟩
theorem clash_of {es : List Edge} : ∀ {j i : Nat}, (∀ k, i ≤ k → k < i + j → ∀ c, (zK es k 5)[k]? = some (some c) → ltR c.q one1 = false) → clashFrom es j i = none
  | 0, _, _ => rfl
  | j + 1, i, h => by
    have ih := clash_of (es := es) (j := j) (i := i + 1) fun k h1 h2 c hc => h k (by omega) (by omega) c hc
    unfold clashFrom
    split
    · rename_i c hc
      rw [h i (Nat.le_refl _) (by omega) c hc]
      exact ih
    · exact ih
theorem clash_same {p p' : Paper} {ax ax' : Int} (hok : zr p = true) (hok' : zr p' = true) (hs : p'.sheets = p.sheets) (h : ∀ t, inE (zx p ax) t ↔ inE (zx p' ax') t) (hc : clashA p ax = none) : clashA p' ax' = none := by
  obtain ⟨o1, o2, -⟩ := zD hok
  refine clash_of fun k h1 h2 c' hc' => ?_
  obtain ⟨c, c1, c2⟩ := chains_same (fun t => (h t).symm) (fun e he => (edge_nodes hok' he).1) (fun e he => (edge_nodes hok he).1) (show k < 5 by omega) hc'
  rw [← c2]
  exact clash_none hc k h1 (by rw [← hs]; exact h2) c c1
theorem dist_same {p p' : Paper} {ax ax' : Int} (hok : zr p = true) (hok' : zr p' = true) (hs : p'.sheets = p.sheets) (h : ∀ t, inE (zx p ax) t ↔ inE (zx p' ax') t) {s t : Nat} (h1 : s < 1 + p.sheets) (h2 : t < 1 + p.sheets) : distF p' ax' s t = distF p ax s t := by
  obtain ⟨o1, o2, -⟩ := zD hok
  by_cases hst : s = t
  · subst hst; unfold distF; rw [if_pos rfl, if_pos rfl]
  · have e1 := dist_some hok ax h1 h2 hst
    have e2 := dist_some hok' ax' (show (s : Int) < 1 + p'.sheets by omega) (show (t : Int) < 1 + p'.sheets by omega) hst
    obtain ⟨c, c1, c2⟩ := chains_same h (fun e he => (edge_nodes hok he).1) (fun e he => (edge_nodes hok' he).1) (show s < 5 by omega) e1
    rw [e2] at c1; cases c1
    unfold distF
    rw [if_neg hst, if_neg hst]
    exact c2
/-! ### what is said along an axis -/
def mT (m : Mark) : List T := (markE m 0).map tE
def jT (j : Join) : List T := (joinE j 0).map tE
def sT (i : Nat) : List T := (sheetE i).map tE
theorem marksE_T (ax : Int) (t : T) : ∀ (l : List Mark) (i : Nat), (∃ e, e ∈ marksE ax l i ∧ tE e = t) ↔ ∃ m ∈ l, m.axis = ax ∧ t ∈ mT m
  | [], i => by simp [marksE]
  | m :: l, i => by
    have hm : ∀ k, t ∈ mT m ↔ ∃ e ∈ markE m k, tE e = t := by
      intro k; unfold mT; rw [show (markE m 0).map tE = (markE m k).map tE from rfl, List.mem_map]
    have ih := marksE_T ax t l (i + 1)
    constructor
    · rintro ⟨e, he, rfl⟩
      simp only [marksE, List.mem_append] at he
      rcases he with he | he
      · split at he
        · rename_i hax; exact ⟨m, by simp, hax, (hm i).2 ⟨e, he, rfl⟩⟩
        · cases he
      · obtain ⟨m', h1, h2, h3⟩ := ih.1 ⟨e, he, rfl⟩
        exact ⟨m', List.mem_cons_of_mem _ h1, h2, h3⟩
    · rintro ⟨m', h1, h2, h3⟩
      rcases List.mem_cons.1 h1 with rfl | h1
      · obtain ⟨e, he, h⟩ := (hm i).1 h3
        exact ⟨e, by simp only [marksE, List.mem_append, h2, if_true]; exact .inl he, h⟩
      · obtain ⟨e, he, h⟩ := ih.2 ⟨m', h1, h2, h3⟩
        exact ⟨e, by simp only [marksE, List.mem_append]; exact .inr he, h⟩
theorem joinsE_T (ax : Int) (t : T) : ∀ (l : List Join) (i : Nat), (∃ e, e ∈ joinsE ax l i ∧ tE e = t) ↔ ∃ m ∈ l, m.axis = ax ∧ t ∈ jT m
  | [], i => by simp [joinsE]
  | m :: l, i => by
    have hm : ∀ k, t ∈ jT m ↔ ∃ e ∈ joinE m k, tE e = t := by
      intro k; unfold jT; rw [show (joinE m 0).map tE = (joinE m k).map tE from rfl, List.mem_map]
    have ih := joinsE_T ax t l (i + 1)
    constructor
    · rintro ⟨e, he, rfl⟩
      simp only [joinsE, List.mem_append] at he
      rcases he with he | he
      · split at he
        · rename_i hax; exact ⟨m, by simp, hax, (hm i).2 ⟨e, he, rfl⟩⟩
        · cases he
      · obtain ⟨m', h1, h2, h3⟩ := ih.1 ⟨e, he, rfl⟩
        exact ⟨m', List.mem_cons_of_mem _ h1, h2, h3⟩
    · rintro ⟨m', h1, h2, h3⟩
      rcases List.mem_cons.1 h1 with rfl | h1
      · obtain ⟨e, he, h⟩ := (hm i).1 h3
        exact ⟨e, by simp only [joinsE, List.mem_append, h2, if_true]; exact .inl he, h⟩
      · obtain ⟨e, he, h⟩ := ih.2 ⟨m', h1, h2, h3⟩
        exact ⟨e, by simp only [joinsE, List.mem_append]; exact .inr he, h⟩
theorem inE_edges {p : Paper} {ax : Int} {t : T} : inE (zx p ax) t ↔ (∃ i, i < p.sheets.toNat ∧ t ∈ sT i) ∨ (∃ m ∈ p.marks, m.axis = ax ∧ t ∈ mT m) ∨ (∃ m ∈ p.joins, m.axis = ax ∧ t ∈ jT m) := by
  rw [← marksE_T ax t p.marks 0, ← joinsE_T ax t p.joins 0]
  unfold inE zx
  constructor
  · rintro ⟨e, he, rfl⟩
    simp only [List.mem_append, List.mem_flatMap, List.mem_range'_1] at he
    rcases he with (⟨i, hi, he⟩ | he) | he
    · exact .inl ⟨i, by omega, List.mem_map.2 ⟨e, he, rfl⟩⟩
    · exact .inr (.inl ⟨e, he, rfl⟩)
    · exact .inr (.inr ⟨e, he, rfl⟩)
  · rintro (⟨i, hi, h⟩ | ⟨e, he, rfl⟩ | ⟨e, he, rfl⟩)
    · obtain ⟨e, he, rfl⟩ := List.mem_map.1 h
      refine ⟨e, ?_, rfl⟩
      simp only [List.mem_append, List.mem_flatMap, List.mem_range'_1]
      exact .inl (.inl ⟨i, by omega, he⟩)
    · exact ⟨e, by simp only [List.mem_append]; exact .inl (.inr he), rfl⟩
    · exact ⟨e, by simp only [List.mem_append]; exact .inr he, rfl⟩
/-- The paper of what is said along one axis, the other way round. -/
def ownM (p : Paper) (ax : Int) : List Mark := (p.marks.filter fun m => decide (m.axis = ax)).reverse
def ownJ (p : Paper) (ax : Int) : List Join := (p.joins.filter fun m => decide (m.axis = ax)).reverse
def ownP (p : Paper) (ax : Int) : Paper := ⟨p.sheets, (ownM p ax).isEmpty, ownM p ax, (ownJ p ax).isEmpty, ownJ p ax⟩
theorem mem_ownM {p : Paper} {ax : Int} {m : Mark} : m ∈ ownM p ax ↔ m ∈ p.marks ∧ m.axis = ax := by simp [ownM]
theorem mem_ownJ {p : Paper} {ax : Int} {m : Join} : m ∈ ownJ p ax ↔ m ∈ p.joins ∧ m.axis = ax := by simp [ownJ]
theorem own_wf {p : Paper} {ax : Int} (hwf : p.wf) : (ownP p ax).wf := by
  refine ⟨fun h => List.isEmpty_iff.1 h, fun h => List.isEmpty_iff.1 h, ?_, ?_⟩
  · have := List.length_filter_le (fun m : Mark => decide (m.axis = ax)) p.marks
    have := hwf.2.2.1
    simp only [ownP, ownM, List.length_reverse]; omega
  · have := List.length_filter_le (fun m : Join => decide (m.axis = ax)) p.joins
    have := hwf.2.2.2
    simp only [ownP, ownJ, List.length_reverse]; omega
theorem own_ok {p : Paper} {ax : Int} (hok : zr p = true) : zr (ownP p ax) = true := by
  obtain ⟨o1, o2, o3, o4, o5, o6⟩ := zD hok
  have l1 := List.length_filter_le (fun m : Mark => decide (m.axis = ax)) p.marks
  have l2 := List.length_filter_le (fun m : Join => decide (m.axis = ax)) p.joins
  simp only [zr, Bool.and_eq_true, decide_eq_true_eq, List.all_eq_true]
  refine ⟨⟨⟨⟨⟨o1, o2⟩, ?_⟩, ?_⟩, fun m hm => ?_⟩, fun m hm => ?_⟩
  · show (ownM p ax).length ≤ 24
    simp only [ownM, List.length_reverse]; omega
  · show (ownJ p ax).length ≤ 24
    simp only [ownJ, List.length_reverse]; omega
  · exact o5 m (mem_ownM.1 hm).1
  · exact o6 m (mem_ownJ.1 hm).1
theorem own_edges {p : Paper} {ax : Int} (t : T) : inE (zx p ax) t ↔ inE (zx (ownP p ax) ax) t := by
  rw [inE_edges, inE_edges]
  refine or_congr Iff.rfl (or_congr ?_ ?_)
  · constructor
    · rintro ⟨m, h1, h2, h3⟩; exact ⟨m, mem_ownM.2 ⟨h1, h2⟩, h2, h3⟩
    · rintro ⟨m, h1, h2, h3⟩; exact ⟨m, (mem_ownM.1 h1).1, h2, h3⟩
  · constructor
    · rintro ⟨m, h1, h2, h3⟩; exact ⟨m, mem_ownJ.2 ⟨h1, h2⟩, h2, h3⟩
    · rintro ⟨m, h1, h2, h3⟩; exact ⟨m, (mem_ownJ.1 h1).1, h2, h3⟩
theorem own_other {p : Paper} {ax ax' : Int} (hne : ax' ≠ ax) {t : T} (h : inE (zx (ownP p ax) ax') t) : t.w = 2 := by
  rcases inE_edges.1 h with ⟨i, _, h⟩ | ⟨m, h1, h2, _⟩ | ⟨m, h1, h2, _⟩
  · simp only [sT, sheetE, List.map_cons, List.map_nil, List.mem_cons, List.not_mem_nil, or_false] at h
    have h2 : vR ⟨2, 1⟩ = 2 := by decide
    rcases h with rfl | rfl <;> (simp only [tE]; exact h2)
  · exact absurd (h2.symm.trans (mem_ownM.1 h1).2) hne
  · exact absurd (h2.symm.trans (mem_ownJ.1 h1).2) hne
theorem pr_two {E : T → Prop} (hE : ∀ t, E t → t.w = 2) : ∀ {l : List T} {a b : Nat}, Ch E a l b → 1 ≤ pr l ∧ (l ≠ [] → 2 ≤ pr l)
  | [], _, _, _ => ⟨Rat.le_refl, fun h => absurd rfl h⟩
  | t :: l, _, _, h => by
    have ih := (pr_two hE h.2.2).1
    have h2 : (2 : Rat) ≤ pr (t :: l) := by
      show (2 : Rat) ≤ t.w * pr l
      rw [hE t h.1]
      have := Rat.mul_le_mul_of_nonneg_left ih (show (0 : Rat) ≤ 2 by decide)
      rwa [Rat.mul_one] at this
    exact ⟨Rat.le_trans (by decide) h2, fun _ => h2⟩
theorem own_clash {p : Paper} {ax ax' : Int} (hok : zr p = true) (hne : ax' ≠ ax) : clashA (ownP p ax) ax' = none := by
  obtain ⟨o1, o2, -⟩ := zD hok
  refine clash_of fun k h1 h2 c hc => ?_
  have h5 : k < 5 := by
    have : k < 0 + (1 + p.sheets).toNat := h2
    omega
  obtain ⟨n, n1, n2, w, w1, w2, w3, w4, w5⟩ := (chains_spec (fun e he => (edge_nodes (own_ok hok) he).1) h5 5).2.1 k c hc
  have hp := (pr_two (fun t ht => own_other hne ht) w2.1).1
  cases hlt : ltR c.q one1 with
  | false => rfl
  | true =>
    rw [ltR_iff w5.2.1 (by decide), one_vR, w3] at hlt
    exact absurd hlt (Rat.not_lt.2 hp)
theorem own_dist {p : Paper} {ax ax' : Int} (hok : zr p = true) (hne : ax' ≠ ax) {i : Nat} (hi : (i : Int) < p.sheets) : distF (ownP p ax) ax' (1 + i) 0 = ⟨2, 1⟩ ∧ distF (ownP p ax) ax' 0 (1 + i) = ⟨2, 1⟩ := by
  have hok' := own_ok (ax := ax) hok
  have hc := own_clash hok hne
  have hr2 : redR ⟨2, 1⟩ := ⟨by decide, by decide, by decide⟩
  have h2 : vR ⟨2, 1⟩ = 2 := by decide
  have b1 : ((1 + i : Nat) : Int) < 1 + (ownP p ax).sheets := by show _ < 1 + p.sheets; omega
  have b0 : ((0 : Nat) : Int) < 1 + (ownP p ax).sheets := by show _ < 1 + p.sheets; omega
  have key : ∀ (s t : Nat) (w : List Edge), s ≠ t → (s : Int) < 1 + (ownP p ax).sheets → (t : Int) < 1 + (ownP p ax).sheets → Wk (zx (ownP p ax) ax') s w t → prE w = 2 → distF (ownP p ax) ax' s t = ⟨2, 1⟩ := by
    intro s t w hst hs ht hw hpr
    obtain ⟨r1, v, v1, _, v3⟩ := dist_real hok' ax' hs ht
    refine red_eq r1 hr2 (Rat.le_antisymm ?_ ?_)
    · rw [h2, ← hpr]; exact dist_least hok' hc hs ht hw
    · rw [h2, v3]
      refine (pr_two (fun t ht => own_other hne ht) v1.1).2 fun hn => hst ?_
      have h1 := v1.1
      rw [hn] at h1
      exact h1
  have hin : ∀ e ∈ sheetE i, e ∈ zx (ownP p ax) ax' := by
    intro e he
    simp only [zx, List.mem_append, List.mem_flatMap, List.mem_range'_1]
    exact .inl (.inl ⟨i, by show 0 ≤ i ∧ i < 0 + p.sheets.toNat; omega, he⟩)
  have hp1 : ∀ e ∈ sheetE i, prE [e] = 2 := by
    intro e he
    simp [sheetE] at he
    rcases he with rfl | rfl <;> (simp only [prE, pr, tE, List.map_cons, List.map_nil]; rw [h2, Rat.mul_one])
  constructor
  · have hw := wk_one (hin ⟨1 + i, 0, ⟨2, 1⟩, ⟨false, -1 - i, false⟩⟩ (by simp [sheetE]))
    rw [show ((1 + (i : Int)).toNat) = 1 + i by omega] at hw
    exact key _ _ _ (by omega) b1 b0 hw (hp1 _ (by simp [sheetE]))
  · have hw := wk_one (hin ⟨0, 1 + i, ⟨2, 1⟩, ⟨false, -1 - i, true⟩⟩ (by simp [sheetE]))
    rw [show ((1 + (i : Int)).toNat) = 1 + i by omega] at hw
    exact key _ _ _ (by omega) b0 b1 hw (hp1 _ (by simp [sheetE]))
end Go.VS
