/- Nothing of a statement is proved in this text alone: it is part 4 of the proof's own tools, an evaluator of the code over deep values, its soundness, and what it makes of this seat's functions. Conditions: none beyond the statement's own. -/
import Derived.Test.YtbndhgnkgoggmaaDoorVsCardR3
set_option linter.unusedSimpArgs false
set_option linter.unusedVariables false
namespace Go.VS
open Go Go.Proofs
set_option maxHeartbeats 0
set_option linter.unusedSimpArgs false

noncomputable def lp108_1 : Code := zz [1, 0, 0, 0] (zo Tryd.f108)
theorem lk108_1 : cfg.keep 108 (zr lp108_1) = [0, 1] := by kernel_rfl

theorem L108_1 {F : Exit → St → Option D} (k : List Kt) (x : D) : ∀ (m : Nat) (a b : Nat), b ≤ m →
    zB cfg (lim cfg) 108 F k (.exit 0) ⟨14, [(7, B false), (6, I (0 : Nat)), (0, I ((a.gcd b : Nat) : Int)), (1, I (0 : Int))], [], 0, 0⟩ = some x →
    EvL cfg (lim cfg) 108 F lp108_1 k ⟨14, [(0, I a), (1, I b)], [], 0, 0⟩ = some x := by
  intro m
  induction m with
  | zero =>
    intro a b hb h
    obtain rfl : b = 0 := by omega
    refine zk ?_
    try dsimp only [lp108_1, zz, zo, Tryd.f108]
    simp only [bW, if_true, Nat.reduceEqDiff, if_false]
    repeat' first
      | (intro hb; first | cases hb | skip)
      | ((first | apply z8 | apply ze)
         · rfl
         · simp (disch := assumption) only [go_sem, Nat.reduceEqDiff, Nat.reduceAdd, bP, zf, Nat.reduceLeDiff, Nat.reduceLT, Nat.reduceMul, List.length_append, decide_eq_true_eq, z9, z6, Int.reduceToNat, Int.reduceLE, Int.reduceLT, Int.reduceBNe, Int.reduceBEq, bne_self_eq_false]
           rfl
         · simp only [go_sem, Nat.reduceLT, Nat.reduceEqDiff]
           rfl
         · rfl
         first
         | (apply zd
            · simp only [z5, z0, Nat.reduceLT, decide_true, cond_true, ins]
              rfl
            · simp only [z5, z0, Nat.reduceLT, decide_true, cond_true, ins]
              rfl)
         | (apply zh
            · simp only [z5, z0, Nat.reduceLT, decide_true, cond_true, ins]
              rfl))
      | ((first | apply zb | apply zc)
         · rfl
         · simp only [z5, z0, Nat.reduceLT, decide_true, cond_true, ins]
           rfl)
      | (apply za
         · simp only [go_sem, Nat.reduceEqDiff])
      | (apply z7
         · simp only [go_sem, Nat.reduceEqDiff])
      | (apply zg
         · kernel_rfl
         · kernel_rfl)
      | (simp only [bW, if_true, Nat.reduceEqDiff, if_false])
    rw [Nat.gcd_zero_right] at h
    exact h
  | succ m ih =>
    intro a b hb h
    rcases Nat.eq_zero_or_pos b with h0 | h0
    · subst h0
      exact ih a 0 (Nat.zero_le _) h
    · have hbne : ((b : Int) != 0) = true := by simp; omega
      have hbne' : ((b : Int) = 0) = False := by simp; omega
      refine zk ?_
      try dsimp only [lp108_1, zz, zo, Tryd.f108]
      simp only [bW, if_true, Nat.reduceEqDiff, if_false]
      repeat' first
        | (intro hb; first | cases hb | skip)
        | ((first | apply z8 | apply ze)
           · rfl
           · simp (disch := assumption) only [go_sem, Nat.reduceEqDiff, Nat.reduceAdd, bP, zf, Nat.reduceLeDiff, Nat.reduceLT, Nat.reduceMul, List.length_append, decide_eq_true_eq, z9, z6, Int.reduceToNat, Int.reduceLE, Int.reduceLT, Int.reduceBNe, Int.reduceBEq, hbne, hbne']
             rfl
           · simp only [go_sem, Nat.reduceLT, Nat.reduceEqDiff]
             rfl
           · rfl
           first
           | (apply zd
              · simp only [z5, z0, Nat.reduceLT, decide_true, cond_true, ins]
                rfl
              · simp only [z5, z0, Nat.reduceLT, decide_true, cond_true, ins]
                rfl)
           | (apply zh
              · simp only [z5, z0, Nat.reduceLT, decide_true, cond_true, ins]
                rfl))
        | ((first | apply zb | apply zc)
           · rfl
           · simp only [z5, z0, Nat.reduceLT, decide_true, cond_true, ins]
             rfl)
        | (apply za
           · simp only [go_sem, Nat.reduceEqDiff])
        | (apply z7
           · simp only [go_sem, Nat.reduceEqDiff])
        | (apply zg
           · kernel_rfl
           · kernel_rfl)
        | (simp only [bW, if_true, Nat.reduceEqDiff, if_false])
      have hm : (a : Int).tmod (b : Int) = ((a % b : Nat) : Int) := rfl
      refine zu lk108_1 (by kernel_rfl) (st1 := ⟨14, [(0, I b), (1, I ((a : Int).tmod b))], [], 0, 0⟩) ?_
      rw [hm]
      refine ih b (a % b) (by have := Nat.mod_lt a h0; omega) ?_
      have e : b.gcd (a % b) = a.gcd b := by rw [Nat.gcd_comm b (a % b), ← Nat.gcd_rec, Nat.gcd_comm]
      rw [e]; exact h
theorem t108 (a b : Nat) : (lim cfg).pure 108 [I a, I b] = some (I ((a.gcd b : Nat) : Int)) := by
  refine zm (zj 108) cfn108 rfl (n := 14) rfl ?_
  generalize hF : finP cfg Tryd.f108 = F
  simp only [bW, if_true, Nat.reduceEqDiff, if_false, zl]
  repeat' first
    | (intro hb; first | cases hb | skip)
    | ((first | apply z8 | apply ze)
       · rfl
       · simp (disch := assumption) only [go_sem, Nat.reduceEqDiff, Nat.reduceAdd, bP, zf, Nat.reduceLeDiff, Nat.reduceLT, Nat.reduceMul, List.length_append, decide_eq_true_eq, z9, z6, Int.reduceToNat, Int.reduceLE, Int.reduceLT, Int.reduceBNe, Int.reduceBEq]
         rfl
       · simp only [go_sem, Nat.reduceLT, Nat.reduceEqDiff]
         rfl
       · rfl
       first
       | (apply zd
          · simp only [z5, z0, Nat.reduceLT, decide_true, cond_true, ins]
            rfl
          · simp only [z5, z0, Nat.reduceLT, decide_true, cond_true, ins]
            rfl)
       | (apply zh
          · simp only [z5, z0, Nat.reduceLT, decide_true, cond_true, ins]
            rfl))
    | ((first | apply zb | apply zc)
       · rfl
       · simp only [z5, z0, Nat.reduceLT, decide_true, cond_true, ins]
         rfl)
    | (apply za
       · simp only [go_sem, Nat.reduceEqDiff])
    | (apply z7
       · simp only [go_sem, Nat.reduceEqDiff])
    | (apply zg
       · kernel_rfl
       · kernel_rfl)
    | (simp only [bW, if_true, Nat.reduceEqDiff, if_false])
  refine zS (st1 := ⟨14, [(0, I a), (1, I b)], [], 0, 0⟩) lk108_1 (by kernel_rfl) (L108_1 _ _ b a b (Nat.le_refl _) ?_)
  simp only [bW, if_true, Nat.reduceEqDiff, if_false]
  repeat' first
    | (intro hb; first | cases hb | skip)
    | ((first | apply z8 | apply ze)
       · rfl
       · simp (disch := assumption) only [go_sem, Nat.reduceEqDiff, Nat.reduceAdd, bP, zf, Nat.reduceLeDiff, Nat.reduceLT, Nat.reduceMul, List.length_append, decide_eq_true_eq, z9, z6, Int.reduceToNat, Int.reduceLE, Int.reduceLT, Int.reduceBNe, Int.reduceBEq]
         rfl
       · simp only [go_sem, Nat.reduceLT, Nat.reduceEqDiff]
         rfl
       · rfl
       first
       | (apply zd
          · simp only [z5, z0, Nat.reduceLT, decide_true, cond_true, ins]
            rfl
          · simp only [z5, z0, Nat.reduceLT, decide_true, cond_true, ins]
            rfl)
       | (apply zh
          · simp only [z5, z0, Nat.reduceLT, decide_true, cond_true, ins]
            rfl))
    | ((first | apply zb | apply zc)
       · rfl
       · simp only [z5, z0, Nat.reduceLT, decide_true, cond_true, ins]
         rfl)
    | (apply za
       · simp only [go_sem, Nat.reduceEqDiff])
    | (apply z7
       · simp only [go_sem, Nat.reduceEqDiff])
    | (apply zg
       · kernel_rfl
       · kernel_rfl)
    | (simp only [bW, if_true, Nat.reduceEqDiff, if_false])
  subst hF
  simp only [go_sem, Nat.reduceEqDiff, bP, Nat.reduceAdd, Nat.reduceLeDiff, List.length_map, Tryd.f108]
  all_goals rfl

theorem t74 (n d : Int) (hn : 1 ≤ n) (hn' : n < 9223372036854775808) (hd : 1 ≤ d) (hd' : d < 9223372036854775808) : (lim cfg).pure 74 [I n, I d] = some (.agg [I (lowR n d).n, I (lowR n d).d]) := by
  obtain ⟨a, rfl⟩ := Int.eq_ofNat_of_zero_le (show 0 ≤ n by omega)
  obtain ⟨b, rfl⟩ := Int.eq_ofNat_of_zero_le (show 0 ≤ d by omega)
  have hg := gcdI_pos (d := (b : Int)) hn
  have hg0 : (((a.gcd b : Nat) : Int) = 0) = False := by simp [gcdI] at hg; simp; omega
  have hq1 : IntKind.i64.wrap ((a : Int).tdiv ((a.gcd b : Nat) : Int)) = (lowR (a : Int) b).n := quo_wrap (by omega) hn' hg
  have hq2 : IntKind.i64.wrap ((b : Int).tdiv ((a.gcd b : Nat) : Int)) = (lowR (a : Int) b).d := quo_wrap (by omega) hd' hg
  refine zm (zj 74) cfn74 rfl (n := 16) rfl ?_
  simp only [bW, if_true, Nat.reduceEqDiff, if_false, zl]
  repeat' first
    | (intro hb; first | cases hb | skip)
    | ((first | apply z8 | apply ze)
       · rfl
       · simp (disch := assumption) only [go_sem, Nat.reduceEqDiff, Nat.reduceAdd, bP, zf, Nat.reduceLeDiff, Nat.reduceLT, Nat.reduceMul, List.length_append, decide_eq_true_eq, z9, z6, Int.reduceToNat, Int.reduceLE, Int.reduceLT, Int.reduceBNe, Int.reduceBEq, t108, hg0, hq1, hq2]
         rfl
       · simp only [go_sem, Nat.reduceLT, Nat.reduceEqDiff]
         rfl
       · rfl
       first
       | (apply zd
          · simp only [z5, z0, Nat.reduceLT, decide_true, cond_true, ins]
            rfl
          · simp only [z5, z0, Nat.reduceLT, decide_true, cond_true, ins]
            rfl)
       | (apply zh
          · simp only [z5, z0, Nat.reduceLT, decide_true, cond_true, ins]
            rfl))
    | ((first | apply zb | apply zc)
       · rfl
       · simp only [z5, z0, Nat.reduceLT, decide_true, cond_true, ins]
         rfl)
    | (apply za
       · simp only [go_sem, Nat.reduceEqDiff])
    | (apply z7
       · simp only [go_sem, Nat.reduceEqDiff])
    | (apply zg
       · kernel_rfl
       · kernel_rfl)
    | (simp only [bW, if_true, Nat.reduceEqDiff, if_false])
  all_goals simp only [go_sem, Nat.reduceEqDiff, bP, Nat.reduceAdd, Nat.reduceLeDiff, List.length_map, Tryd.f74]
  all_goals first | rfl | (simp_all []; done) | (simp_all []; intros; omega)

def zK (a b : Ratio) : Ratio := lowR ((lowR a.n b.d).n * (lowR b.n a.d).n) ((lowR a.n b.d).d * (lowR b.n a.d).d)
theorem times_spec {a b : Ratio} (h1 : 1 ≤ a.n) (h2 : 1 ≤ a.d) (h3 : 1 ≤ b.n) (h4 : 1 ≤ b.d) : redR (zK a b) ∧ vR (zK a b) = vR a * vR b := by
  obtain ⟨x1, x2⟩ := low_red h1 h4
  obtain ⟨y1, y2⟩ := low_red h3 h2
  have p1 := Int.mul_le_mul x1.1 y1.1 (by omega) (by have := x1.1; omega)
  have p2 := Int.mul_le_mul x1.2.1 y1.2.1 (by omega) (by have := x1.2.1; omega)
  obtain ⟨z1, z2⟩ := low_red (n := (lowR a.n b.d).n * (lowR b.n a.d).n) (d := (lowR a.n b.d).d * (lowR b.n a.d).d) (by omega) (by omega)
  refine ⟨z1, ?_⟩
  unfold zK
  rw [z2, ← Walks.vq_mul]
  show vR (lowR a.n b.d) * vR (lowR b.n a.d) = _
  rw [x2, y2, Walks.vq_mul, Int.mul_comm b.d, ← Walks.vq_mul]
  rfl
theorem mul3 {a b : Int} (h1 : 1 ≤ a) (h2 : a ≤ 3000000000) (h3 : 1 ≤ b) (h4 : b ≤ 3000000000) : 1 ≤ a * b ∧ a * b ≤ 9000000000000000000 ∧ IntKind.i64.wrap (a * b) = a * b := by
  have h5 := Int.mul_le_mul h1 h3 (by omega) (by omega)
  have h6 : a * b ≤ 3000000000 * 3000000000 := Int.mul_le_mul h2 h4 (by omega) (by omega)
  exact ⟨by omega, by omega, wrap_i64 (by omega) (by omega)⟩

theorem t22 (a b : Ratio) (h1 : 1 ≤ a.n) (h2 : a.n ≤ 3000000000) (h3 : 1 ≤ a.d) (h4 : a.d ≤ 3000000000) (h5 : 1 ≤ b.n) (h6 : b.n ≤ 3000000000) (h7 : 1 ≤ b.d) (h8 : b.d ≤ 3000000000) : (lim cfg).pure 22 [.agg [I a.n, I a.d], .agg [I b.n, I b.d]] = some (.agg [I (zK a b).n, I (zK a b).d]) := by
  obtain ⟨l1, l2, l3, l4⟩ := low_le h1 h7
  obtain ⟨m1, m2, m3, m4⟩ := low_le h5 h3
  obtain ⟨q1, q2, w1⟩ := mul3 (a := (lowR a.n b.d).n) (b := (lowR b.n a.d).n) (by omega) (by omega) (by omega) (by omega)
  obtain ⟨q3, q4, w2⟩ := mul3 (a := (lowR a.n b.d).d) (b := (lowR b.n a.d).d) (by omega) (by omega) (by omega) (by omega)
  have e1 := t74 a.n b.d h1 (by omega) h7 (by omega)
  have e2 := t74 b.n a.d h5 (by omega) h3 (by omega)
  have e3 := t74 ((lowR a.n b.d).n * (lowR b.n a.d).n) ((lowR a.n b.d).d * (lowR b.n a.d).d) q1 (by omega) q3 (by omega)
  refine zm (zj 22) cfn22 rfl (n := 28) rfl ?_
  simp only [bW, if_true, Nat.reduceEqDiff, if_false, zl]
  repeat' first
    | (intro hb; first | cases hb | skip)
    | ((first | apply z8 | apply ze)
       · rfl
       · simp (disch := assumption) only [go_sem, Nat.reduceEqDiff, Nat.reduceAdd, bP, zf, Nat.reduceLeDiff, Nat.reduceLT, Nat.reduceMul, List.length_append, decide_eq_true_eq, z9, z6, Int.reduceToNat, Int.reduceLE, Int.reduceLT, Int.reduceBNe, Int.reduceBEq, e1, e2, e3, w1, w2]
         rfl
       · simp only [go_sem, Nat.reduceLT, Nat.reduceEqDiff]
         rfl
       · rfl
       first
       | (apply zd
          · simp only [z5, z0, Nat.reduceLT, decide_true, cond_true, ins]
            rfl
          · simp only [z5, z0, Nat.reduceLT, decide_true, cond_true, ins]
            rfl)
       | (apply zh
          · simp only [z5, z0, Nat.reduceLT, decide_true, cond_true, ins]
            rfl))
    | ((first | apply zb | apply zc)
       · rfl
       · simp only [z5, z0, Nat.reduceLT, decide_true, cond_true, ins]
         rfl)
    | (apply za
       · simp only [go_sem, Nat.reduceEqDiff])
    | (apply z7
       · simp only [go_sem, Nat.reduceEqDiff])
    | (apply zg
       · kernel_rfl
       · kernel_rfl)
    | (simp only [bW, if_true, Nat.reduceEqDiff, if_false])
  all_goals simp only [go_sem, Nat.reduceEqDiff, bP, Nat.reduceAdd, Nat.reduceLeDiff, List.length_map, Tryd.f22]
  all_goals first | rfl | (simp_all []; done) | (simp_all []; intros; omega)

theorem times_le {a b : Ratio} (h1 : 1 ≤ a.n) (h2 : a.n ≤ 3000000000) (h3 : 1 ≤ a.d) (h4 : a.d ≤ 3000000000) (h5 : 1 ≤ b.n) (h6 : b.n ≤ 3000000000) (h7 : 1 ≤ b.d) (h8 : b.d ≤ 3000000000) : (zK a b).n ≤ 9000000000000000000 ∧ (zK a b).d ≤ 9000000000000000000 := by
  obtain ⟨l1, l2, l3, l4⟩ := low_le h1 h7
  obtain ⟨m1, m2, m3, m4⟩ := low_le h5 h3
  obtain ⟨q1, q2, w1⟩ := mul3 (a := (lowR a.n b.d).n) (b := (lowR b.n a.d).n) (by omega) (by omega) (by omega) (by omega)
  obtain ⟨q3, q4, w2⟩ := mul3 (a := (lowR a.n b.d).d) (b := (lowR b.n a.d).d) (by omega) (by omega) (by omega) (by omega)
  obtain ⟨r1, r2, r3, r4⟩ := low_le q1 q3
  exact ⟨Int.le_trans r2 q2, Int.le_trans r4 q4⟩
end Go.VS
/-
  What is known along one axis depends on what is said along it alone, in any order. (A text of this claim's own; nothing of it is trusted.)
-/
namespace Go.VS
open Go Go.VS.Walks
theorem ch_mono {E E' : T → Prop} (h : ∀ t, E t → E' t) : ∀ {l : List T} {a b : Nat}, Ch E a l b → Ch E' a l b
  | [], _, _, h' => h'
  | _ :: _, _, _, h' => ⟨h _ h'.1, h'.2.1, ch_mono h h'.2.2⟩
theorem chains_le {es es' : List Edge} (hsub : ∀ t, inE es t → inE es' t) (hb : ∀ e ∈ es, edgeB e) (hb' : ∀ e ∈ es', edgeB e) {s m b : Nat} (hs : s < 5) {c : Chn} (hc : (zI es s m)[b]? = some (some c)) :
    redR c.q ∧ ∃ c', (zI es' s m)[b]? = some (some c') ∧ redR c'.q ∧ vR c'.q ≤ vR c.q := by
  obtain ⟨k, k1, k2, w, w1, w2, w3, w4, w5⟩ := (chains_spec hb hs m).2.1 b c hc
  obtain ⟨v, v1, v2⟩ := inE_walk (ch_mono hsub w2.1)
  have hl : v.length = w.length := by have := congrArg List.length v1; simpa using this
  have hp : prE v = prE w := by unfold prE; rw [v1]
  obtain ⟨c', c1, c2⟩ := (chains_spec hb' hs m).2.2 b v (by omega) (by omega) v2
  refine ⟨w5, c', c1, ?_, by rw [w3, ← hp]; exact c2⟩
  obtain ⟨_, _, _, h⟩ := (chains_spec hb' hs m).2.1 b c' c1
  exact real_red h
theorem chains_same {es es' : List Edge} (h : ∀ t, inE es t ↔ inE es' t) (hb : ∀ e ∈ es, edgeB e) (hb' : ∀ e ∈ es', edgeB e) {s m b : Nat} (hs : s < 5) {c : Chn} (hc : (zI es s m)[b]? = some (some c)) :
    ∃ c', (zI es' s m)[b]? = some (some c') ∧ c'.q = c.q := by
  obtain ⟨r1, c', c1, r2, l1⟩ := chains_le (fun t => (h t).1) hb hb' hs hc
  obtain ⟨_, c'', c2, _, l2⟩ := chains_le (fun t => (h t).2) hb' hb hs c1
  rw [hc] at c2; cases c2
  exact ⟨c', c1, red_eq r2 r1 (Rat.le_antisymm l1 l2)⟩
theorem clash_of {es : List Edge} : ∀ {j i : Nat}, (∀ k, i ≤ k → k < i + j → ∀ c, (zI es k 5)[k]? = some (some c) → ltR c.q one1 = false) → clashFrom es j i = none
  | 0, _, _ => rfl
  | j + 1, i, h => by
    have ih := clash_of (es := es) (j := j) (i := i + 1) fun k h1 h2 c hc => h k (by omega) (by omega) c hc
    unfold clashFrom
    split
    · rename_i c hc
      rw [h i (Nat.le_refl _) (by omega) c hc]
      exact ih
    · exact ih
theorem clash_same {p p' : Paper} {ax ax' : Int} (hok : zn p = true) (hok' : zn p' = true) (hs : p'.sheets = p.sheets) (h : ∀ t, inE (zA p ax) t ↔ inE (zA p' ax') t) (hc : clashA p ax = none) : clashA p' ax' = none := by
  obtain ⟨o1, o2, -⟩ := zC hok
  refine clash_of fun k h1 h2 c' hc' => ?_
  obtain ⟨c, c1, c2⟩ := chains_same (fun t => (h t).symm) (fun e he => (edge_nodes hok' he).1) (fun e he => (edge_nodes hok he).1) (show k < 5 by omega) hc'
  rw [← c2]
  exact clash_none hc k h1 (by rw [← hs]; exact h2) c c1
theorem dist_same {p p' : Paper} {ax ax' : Int} (hok : zn p = true) (hok' : zn p' = true) (hs : p'.sheets = p.sheets) (h : ∀ t, inE (zA p ax) t ↔ inE (zA p' ax') t) {s t : Nat} (h1 : s < 1 + p.sheets) (h2 : t < 1 + p.sheets) : distF p' ax' s t = distF p ax s t := by
  obtain ⟨o1, o2, -⟩ := zC hok
  by_cases hst : s = t
  · subst hst; unfold distF; rw [if_pos rfl, if_pos rfl]
  · have e1 := dist_some hok ax h1 h2 hst
    have e2 := dist_some hok' ax' (show (s : Int) < 1 + p'.sheets by omega) (show (t : Int) < 1 + p'.sheets by omega) hst
    obtain ⟨c, c1, c2⟩ := chains_same h (fun e he => (edge_nodes hok he).1) (fun e he => (edge_nodes hok' he).1) (show s < 5 by omega) e1
    rw [e2] at c1; cases c1
    unfold distF
    rw [if_neg hst, if_neg hst]
    exact c2
/-! ### what is said along an axis -/
def mT (m : Mark) : List T := (markE m 0).map tE
def jT (j : Join) : List T := (joinE j 0).map tE
def sT (i : Nat) : List T := (zJ i).map tE
theorem marksE_T (ax : Int) (t : T) : ∀ (l : List Mark) (i : Nat), (∃ e, e ∈ marksE ax l i ∧ tE e = t) ↔ ∃ m ∈ l, m.axis = ax ∧ t ∈ mT m
  | [], i => by simp [marksE]
  | m :: l, i => by
    have hm : ∀ k, t ∈ mT m ↔ ∃ e ∈ markE m k, tE e = t := by
      intro k; unfold mT; rw [show (markE m 0).map tE = (markE m k).map tE from rfl, List.mem_map]
    have ih := marksE_T ax t l (i + 1)
    constructor
    · rintro ⟨e, he, rfl⟩
      simp only [marksE, List.mem_append] at he
      rcases he with he | he
      · split at he
        · rename_i hax; exact ⟨m, by simp, hax, (hm i).2 ⟨e, he, rfl⟩⟩
        · cases he
      · obtain ⟨m', h1, h2, h3⟩ := ih.1 ⟨e, he, rfl⟩
        exact ⟨m', List.mem_cons_of_mem _ h1, h2, h3⟩
    · rintro ⟨m', h1, h2, h3⟩
      rcases List.mem_cons.1 h1 with rfl | h1
      · obtain ⟨e, he, h⟩ := (hm i).1 h3
        exact ⟨e, by simp only [marksE, List.mem_append, h2, if_true]; exact .inl he, h⟩
      · obtain ⟨e, he, h⟩ := ih.2 ⟨m', h1, h2, h3⟩
        exact ⟨e, by simp only [marksE, List.mem_append]; exact .inr he, h⟩
theorem joinsE_T (ax : Int) (t : T) : ∀ (l : List Join) (i : Nat), (∃ e, e ∈ joinsE ax l i ∧ tE e = t) ↔ ∃ m ∈ l, m.axis = ax ∧ t ∈ jT m
  | [], i => by simp [joinsE]
  | m :: l, i => by
    have hm : ∀ k, t ∈ jT m ↔ ∃ e ∈ joinE m k, tE e = t := by
      intro k; unfold jT; rw [show (joinE m 0).map tE = (joinE m k).map tE from rfl, List.mem_map]
    have ih := joinsE_T ax t l (i + 1)
    constructor
    · rintro ⟨e, he, rfl⟩
      simp only [joinsE, List.mem_append] at he
      rcases he with he | he
      · split at he
        · rename_i hax; exact ⟨m, by simp, hax, (hm i).2 ⟨e, he, rfl⟩⟩
        · cases he
      · obtain ⟨m', h1, h2, h3⟩ := ih.1 ⟨e, he, rfl⟩
        exact ⟨m', List.mem_cons_of_mem _ h1, h2, h3⟩
    · rintro ⟨m', h1, h2, h3⟩
      rcases List.mem_cons.1 h1 with rfl | h1
      · obtain ⟨e, he, h⟩ := (hm i).1 h3
        exact ⟨e, by simp only [joinsE, List.mem_append, h2, if_true]; exact .inl he, h⟩
      · obtain ⟨e, he, h⟩ := ih.2 ⟨m', h1, h2, h3⟩
        exact ⟨e, by simp only [joinsE, List.mem_append]; exact .inr he, h⟩
theorem inE_edges {p : Paper} {ax : Int} {t : T} : inE (zA p ax) t ↔ (∃ i, i < p.sheets.toNat ∧ t ∈ sT i) ∨ (∃ m ∈ p.marks, m.axis = ax ∧ t ∈ mT m) ∨ (∃ m ∈ p.joins, m.axis = ax ∧ t ∈ jT m) := by
  rw [← marksE_T ax t p.marks 0, ← joinsE_T ax t p.joins 0]
  unfold inE zA
  constructor
  · rintro ⟨e, he, rfl⟩
    simp only [List.mem_append, List.mem_flatMap, List.mem_range'_1] at he
    rcases he with (⟨i, hi, he⟩ | he) | he
    · exact .inl ⟨i, by omega, List.mem_map.2 ⟨e, he, rfl⟩⟩
    · exact .inr (.inl ⟨e, he, rfl⟩)
    · exact .inr (.inr ⟨e, he, rfl⟩)
  · rintro (⟨i, hi, h⟩ | ⟨e, he, rfl⟩ | ⟨e, he, rfl⟩)
    · obtain ⟨e, he, rfl⟩ := List.mem_map.1 h
      refine ⟨e, ?_, rfl⟩
      simp only [List.mem_append, List.mem_flatMap, List.mem_range'_1]
      exact .inl (.inl ⟨i, by omega, he⟩)
    · exact ⟨e, by simp only [List.mem_append]; exact .inl (.inr he), rfl⟩
    · exact ⟨e, by simp only [List.mem_append]; exact .inr he, rfl⟩
/-- The paper of what is said along one axis, the other way round. -/
def ownM (p : Paper) (ax : Int) : List Mark := (p.marks.filter fun m => decide (m.axis = ax)).reverse
def ownJ (p : Paper) (ax : Int) : List Join := (p.joins.filter fun m => decide (m.axis = ax)).reverse
def ownP (p : Paper) (ax : Int) : Paper := ⟨p.sheets, (ownM p ax).isEmpty, ownM p ax, (ownJ p ax).isEmpty, ownJ p ax⟩
theorem mem_ownM {p : Paper} {ax : Int} {m : Mark} : m ∈ ownM p ax ↔ m ∈ p.marks ∧ m.axis = ax := by simp [ownM]
theorem mem_ownJ {p : Paper} {ax : Int} {m : Join} : m ∈ ownJ p ax ↔ m ∈ p.joins ∧ m.axis = ax := by simp [ownJ]
theorem own_wf {p : Paper} {ax : Int} (hwf : p.wf) : (ownP p ax).wf := by
  refine ⟨fun h => List.isEmpty_iff.1 h, fun h => List.isEmpty_iff.1 h, ?_, ?_⟩
  · have := List.length_filter_le (fun m : Mark => decide (m.axis = ax)) p.marks
    have := hwf.2.2.1
    simp only [ownP, ownM, List.length_reverse]; omega
  · have := List.length_filter_le (fun m : Join => decide (m.axis = ax)) p.joins
    have := hwf.2.2.2
    simp only [ownP, ownJ, List.length_reverse]; omega
theorem own_ok {p : Paper} {ax : Int} (hok : zn p = true) : zn (ownP p ax) = true := by
  obtain ⟨o1, o2, o3, o4, o5, o6⟩ := zC hok
  have l1 := List.length_filter_le (fun m : Mark => decide (m.axis = ax)) p.marks
  have l2 := List.length_filter_le (fun m : Join => decide (m.axis = ax)) p.joins
  simp only [zn, Bool.and_eq_true, decide_eq_true_eq, List.all_eq_true]
  refine ⟨⟨⟨⟨⟨o1, o2⟩, ?_⟩, ?_⟩, fun m hm => ?_⟩, fun m hm => ?_⟩
  · show (ownM p ax).length ≤ 24
    simp only [ownM, List.length_reverse]; omega
  · show (ownJ p ax).length ≤ 24
    simp only [ownJ, List.length_reverse]; omega
  · exact o5 m (mem_ownM.1 hm).1
  · exact o6 m (mem_ownJ.1 hm).1
theorem own_edges {p : Paper} {ax : Int} (t : T) : inE (zA p ax) t ↔ inE (zA (ownP p ax) ax) t := by
  rw [inE_edges, inE_edges]
  refine or_congr Iff.rfl (or_congr ?_ ?_)
  · constructor
    · rintro ⟨m, h1, h2, h3⟩; exact ⟨m, mem_ownM.2 ⟨h1, h2⟩, h2, h3⟩
    · rintro ⟨m, h1, h2, h3⟩; exact ⟨m, (mem_ownM.1 h1).1, h2, h3⟩
  · constructor
    · rintro ⟨m, h1, h2, h3⟩; exact ⟨m, mem_ownJ.2 ⟨h1, h2⟩, h2, h3⟩
    · rintro ⟨m, h1, h2, h3⟩; exact ⟨m, (mem_ownJ.1 h1).1, h2, h3⟩
theorem own_other {p : Paper} {ax ax' : Int} (hne : ax' ≠ ax) {t : T} (h : inE (zA (ownP p ax) ax') t) : t.w = 2 := by
  rcases inE_edges.1 h with ⟨i, _, h⟩ | ⟨m, h1, h2, _⟩ | ⟨m, h1, h2, _⟩
  · simp only [sT, zJ, List.map_cons, List.map_nil, List.mem_cons, List.not_mem_nil, or_false] at h
    have h2 : vR ⟨2, 1⟩ = 2 := by decide
    rcases h with rfl | rfl <;> (simp only [tE]; exact h2)
  · exact absurd (h2.symm.trans (mem_ownM.1 h1).2) hne
  · exact absurd (h2.symm.trans (mem_ownJ.1 h1).2) hne
theorem pr_two {E : T → Prop} (hE : ∀ t, E t → t.w = 2) : ∀ {l : List T} {a b : Nat}, Ch E a l b → 1 ≤ pr l ∧ (l ≠ [] → 2 ≤ pr l)
  | [], _, _, _ => ⟨Rat.le_refl, fun h => absurd rfl h⟩
  | t :: l, _, _, h => by
    have ih := (pr_two hE h.2.2).1
    have h2 : (2 : Rat) ≤ pr (t :: l) := by
      show (2 : Rat) ≤ t.w * pr l
      rw [hE t h.1]
      have := Rat.mul_le_mul_of_nonneg_left ih (show (0 : Rat) ≤ 2 by decide)
      rwa [Rat.mul_one] at this
    exact ⟨Rat.le_trans (by decide) h2, fun _ => h2⟩
theorem own_clash {p : Paper} {ax ax' : Int} (hok : zn p = true) (hne : ax' ≠ ax) : clashA (ownP p ax) ax' = none := by
  obtain ⟨o1, o2, -⟩ := zC hok
  refine clash_of fun k h1 h2 c hc => ?_
  have h5 : k < 5 := by
    have : k < 0 + (1 + p.sheets).toNat := h2
    omega
  obtain ⟨n, n1, n2, w, w1, w2, w3, w4, w5⟩ := (chains_spec (fun e he => (edge_nodes (own_ok hok) he).1) h5 5).2.1 k c hc
  have hp := (pr_two (fun t ht => own_other hne ht) w2.1).1
  cases hlt : ltR c.q one1 with
  | false => rfl
  | true =>
    rw [ltR_iff w5.2.1 (by decide), one_vR, w3] at hlt
    exact absurd hlt (Rat.not_lt.2 hp)
theorem own_dist {p : Paper} {ax ax' : Int} (hok : zn p = true) (hne : ax' ≠ ax) {i : Nat} (hi : (i : Int) < p.sheets) : distF (ownP p ax) ax' (1 + i) 0 = ⟨2, 1⟩ ∧ distF (ownP p ax) ax' 0 (1 + i) = ⟨2, 1⟩ := by
  have hok' := own_ok (ax := ax) hok
  have hc := own_clash hok hne
  have hr2 : redR ⟨2, 1⟩ := ⟨by decide, by decide, by decide⟩
  have h2 : vR ⟨2, 1⟩ = 2 := by decide
  have b1 : ((1 + i : Nat) : Int) < 1 + (ownP p ax).sheets := by show _ < 1 + p.sheets; omega
  have b0 : ((0 : Nat) : Int) < 1 + (ownP p ax).sheets := by show _ < 1 + p.sheets; omega
  have key : ∀ (s t : Nat) (w : List Edge), s ≠ t → (s : Int) < 1 + (ownP p ax).sheets → (t : Int) < 1 + (ownP p ax).sheets → Wk (zA (ownP p ax) ax') s w t → prE w = 2 → distF (ownP p ax) ax' s t = ⟨2, 1⟩ := by
    intro s t w hst hs ht hw hpr
    obtain ⟨r1, v, v1, _, v3⟩ := dist_real hok' ax' hs ht
    refine red_eq r1 hr2 (Rat.le_antisymm ?_ ?_)
    · rw [h2, ← hpr]; exact dist_least hok' hc hs ht hw
    · rw [h2, v3]
      refine (pr_two (fun t ht => own_other hne ht) v1.1).2 fun hn => hst ?_
      have h1 := v1.1
      rw [hn] at h1
      exact h1
  have hin : ∀ e ∈ zJ i, e ∈ zA (ownP p ax) ax' := by
    intro e he
    simp only [zA, List.mem_append, List.mem_flatMap, List.mem_range'_1]
    exact .inl (.inl ⟨i, by show 0 ≤ i ∧ i < 0 + p.sheets.toNat; omega, he⟩)
  have hp1 : ∀ e ∈ zJ i, prE [e] = 2 := by
    intro e he
    simp [zJ] at he
    rcases he with rfl | rfl <;> (simp only [prE, pr, tE, List.map_cons, List.map_nil]; rw [h2, Rat.mul_one])
  constructor
  · have hw := wk_one (hin ⟨1 + i, 0, ⟨2, 1⟩, ⟨false, -1 - i, false⟩⟩ (by simp [zJ]))
    rw [show ((1 + (i : Int)).toNat) = 1 + i by omega] at hw
    exact key _ _ _ (by omega) b1 b0 hw (hp1 _ (by simp [zJ]))
  · have hw := wk_one (hin ⟨0, 1 + i, ⟨2, 1⟩, ⟨false, -1 - i, true⟩⟩ (by simp [zJ]))
    rw [show ((1 + (i : Int)).toNat) = 1 + i by omega] at hw
    exact key _ _ _ (by omega) b0 b1 hw (hp1 _ (by simp [zJ]))
end Go.VS
/-
  What the reference's nets come to: the least quotients of walks of at most five zA, their nodes named otherwise. (A text of this claim's own; nothing of it is trusted.)
-/
namespace Go.VS
open Go Go.VS.Walks
def refOf (u : Int) (e : Edge) : Edge := ⟨if e.src = 0 then u else e.src - 1, if e.dst = 0 then u else e.dst - 1, lowR e.q.n e.q.d, e.why⟩
def refB (p : Paper) (ax : Int) : List Edge := marksE ax p.marks 0 ++ joinsE ax p.joins 0 ++ (List.range' 0 p.sheets.toNat).flatMap zJ
def refE (p : Paper) (ax : Int) : List Edge := (refB p ax).map (refOf p.sheets)
theorem mem_refB {p : Paper} {ax : Int} {e : Edge} : e ∈ refB p ax ↔ e ∈ zA p ax := by
  unfold refB zA
  simp only [List.mem_append]
  constructor
  · rintro ((h | h) | h)
    · exact .inl (.inr h)
    · exact .inr h
    · exact .inl (.inl h)
  · rintro ((h | h) | h)
    · exact .inr h
    · exact .inl (.inl h)
    · exact .inl (.inr h)
abbrev NetF := Nat → Nat → Ratio
def putF (c : NetF) (i j : Nat) (r : Ratio) : NetF := fun a b => if a = i ∧ b = j then r else c a b
def stepF (c : NetF) (e : Edge) (out : NetF) (j : Nat) : NetF :=
  if (c e.dst.toNat j).n = 0 then out
  else if (out e.src.toNat j).n = 0 ∨ cmpR (zK e.q (c e.dst.toNat j)) (out e.src.toNat j) < 0 then putF out e.src.toNat j (zK e.q (c e.dst.toNat j)) else out
def innerF (c : NetF) (e : Edge) : Nat → Nat → NetF → NetF
  | 0, _, out => out
  | m + 1, j, out => innerF c e m (j + 1) (stepF c e out j)
def foldF (c : NetF) : List Edge → NetF → NetF
  | [], out => out
  | e :: es, out => foldF c es (innerF c e 5 0 out)
def startF : NetF := fun i j => if i = j ∧ i < 5 then ⟨1, 1⟩ else ⟨0, 0⟩
def iterF (es : List Edge) : Nat → NetF → NetF
  | 0, c => c
  | m + 1, c => iterF es m (foldF c es c)
def netR (p : Paper) (ax : Int) : NetF := iterF (refE p ax) 5 startF
/-! ### bounds -/
def entB (m : Int) (r : Ratio) : Prop := r.n = 0 ∨ (1 ≤ r.n ∧ r.n ≤ m ∧ 1 ≤ r.d ∧ r.d ≤ m)
def nB (m : Int) (c : NetF) : Prop := ∀ i j, entB m (c i j)
def eB (e : Edge) : Prop := 0 ≤ e.src ∧ e.src < 5 ∧ 0 ≤ e.dst ∧ e.dst < 5 ∧ 1 ≤ e.q.n ∧ e.q.n ≤ 2000 ∧ 1 ≤ e.q.d ∧ e.q.d ≤ 2000
theorem entB_mono {m m' : Int} {r : Ratio} (h : entB m r) (hm : m ≤ m') : entB m' r := by
  rcases h with h | ⟨a, b, c, d⟩
  · exact .inl h
  · exact .inr ⟨a, by omega, c, by omega⟩
theorem timesB {m : Int} {a b : Ratio} (ha : 1 ≤ a.n ∧ a.n ≤ 2000 ∧ 1 ≤ a.d ∧ a.d ≤ 2000) (hb : 1 ≤ b.n ∧ b.n ≤ m ∧ 1 ≤ b.d ∧ b.d ≤ m) : 1 ≤ (zK a b).n ∧ (zK a b).n ≤ 2000 * m ∧ 1 ≤ (zK a b).d ∧ (zK a b).d ≤ 2000 * m := by
  obtain ⟨a1, a2, a3, a4⟩ := ha
  obtain ⟨b1, b2, b3, b4⟩ := hb
  obtain ⟨l1, l2, l3, l4⟩ := low_le a1 b3
  obtain ⟨m1, m2, m3, m4⟩ := low_le b1 a3
  have p1 := Int.mul_le_mul l1 m1 (by omega) (by omega)
  have p2 := Int.mul_le_mul l3 m3 (by omega) (by omega)
  have p3 : (lowR a.n b.d).n * (lowR b.n a.d).n ≤ 2000 * m := Int.mul_le_mul (by omega) (by omega) (by omega) (by omega)
  have p4 : (lowR a.n b.d).d * (lowR b.n a.d).d ≤ m * 2000 := Int.mul_le_mul (by omega) (by omega) (by omega) (by omega)
  obtain ⟨q1, q2, q3, q4⟩ := low_le (n := (lowR a.n b.d).n * (lowR b.n a.d).n) (d := (lowR a.n b.d).d * (lowR b.n a.d).d) (by omega) (by omega)
  unfold zK
  omega
theorem stepB {m : Int} {c out : NetF} {e : Edge} {j : Nat} (hc : nB m c) (he : eB e) (ho : nB (2000 * m) out) : nB (2000 * m) (stepF c e out j) := by
  unfold stepF
  split
  · exact ho
  · rename_i h
    split
    · intro a b
      unfold putF
      split
      · exact .inr (timesB he.2.2.2.2 ((hc _ _).resolve_left h))
      · exact ho a b
    · exact ho
theorem innerB {m : Int} {c : NetF} {e : Edge} (hc : nB m c) (he : eB e) : ∀ (k j : Nat) {out : NetF}, nB (2000 * m) out → nB (2000 * m) (innerF c e k j out)
  | 0, _, _, h => h
  | k + 1, j, _, h => innerB hc he k (j + 1) (stepB hc he h)
theorem foldB {m : Int} {c : NetF} (hc : nB m c) : ∀ {es : List Edge}, (∀ e ∈ es, eB e) → ∀ {out : NetF}, nB (2000 * m) out → nB (2000 * m) (foldF c es out)
  | [], _, _, h => h
  | e :: _, he, _, h => foldB hc (fun e' h' => he e' (List.mem_cons_of_mem _ h')) (innerB hc (he e (by simp)) 5 0 h)
theorem longB {m : Int} {c : NetF} {es : List Edge} (hm : 1 ≤ m) (hc : nB m c) (he : ∀ e ∈ es, eB e) : nB (2000 * m) (foldF c es c) :=
  foldB hc he fun i j => entB_mono (hc i j) (by omega)
theorem startB : nB 1 startF := by
  intro i j
  unfold startF
  split
  · exact .inr ⟨by decide, by decide, by decide, by decide⟩
  · exact .inl rfl
theorem sheet_pos {p : Paper} (hok : zn p = true) : ∃ u : Nat, p.sheets = u ∧ 1 ≤ u ∧ u ≤ 4 := by
  obtain ⟨o1, o2, -⟩ := zC hok
  exact ⟨p.sheets.toNat, by omega, by omega, by omega⟩
theorem refE_B {p : Paper} (hok : zn p = true) (ax : Int) : ∀ e ∈ refE p ax, eB e := by
  intro e he
  obtain ⟨u, hu, u1, u2⟩ := sheet_pos hok
  obtain ⟨e', h1, rfl⟩ := List.mem_map.1 he
  obtain ⟨hb, hs, hd⟩ := edge_nodes hok (mem_refB.1 h1)
  obtain ⟨b1, b2, b3, b4, b5, b6, b7, b8⟩ := hb
  obtain ⟨l1, l2, l3, l4⟩ := low_le b5 b7
  unfold refOf eB
  simp only
  refine ⟨?_, ?_, ?_, ?_, l1, by omega, l3, by omega⟩ <;> split <;> omega
/-! ### what the nets are -/
/-- A zl that some walk of at most n zA comes to. -/
def RW (E : T → Prop) (n x y : Nat) (v : Rat) : Prop := ∃ l, l.length ≤ n ∧ Ch E x l y ∧ v = pr l
def Good (E : T → Prop) (n : Nat) (c : NetF) : Prop := ∀ x y, (c x y).n ≠ 0 → redR (c x y) ∧ RW E n x y (vR (c x y))
def Atm (c : NetF) (x y : Nat) (v : Rat) : Prop := (c x y).n ≠ 0 ∧ vR (c x y) ≤ v
def Exa (E : T → Prop) (n : Nat) (c : NetF) : Prop := Good E n c ∧ ∀ x y, x < 5 → y < 5 → ∀ l, l.length ≤ n → Ch E x l y → Atm c x y (pr l)
theorem good_mono {E : T → Prop} {n m : Nat} (h : n ≤ m) {c : NetF} (hg : Good E n c) : Good E m c := fun x y hn => by
  obtain ⟨r, l, l1, l2, l3⟩ := hg x y hn
  exact ⟨r, l, by omega, l2, l3⟩
section
variable {es : List Edge} {n : Nat} {c : NetF}
theorem step_all (hc : Good (inE es) n c) {e : Edge} (he : e ∈ es) (hb : eB e) {out : NetF} (ho : Good (inE es) (n + 1) out) (j : Nat) :
    Good (inE es) (n + 1) (stepF c e out j) ∧ (∀ x y v, Atm out x y v → Atm (stepF c e out j) x y v) ∧ ((c e.dst.toNat j).n ≠ 0 → Atm (stepF c e out j) e.src.toNat j (vR e.q * vR (c e.dst.toNat j))) := by
  unfold stepF
  split
  · rename_i h
    exact ⟨ho, fun _ _ _ h => h, fun h' => absurd h h'⟩
  · rename_i h
    obtain ⟨r1, l, l1, l2, l3⟩ := hc _ _ h
    obtain ⟨t1, t2⟩ := times_spec (a := e.q) (b := c e.dst.toNat j) hb.2.2.2.2.1 hb.2.2.2.2.2.2.1 r1.1 r1.2.1
    have hreal : RW (inE es) (n + 1) e.src.toNat j (vR (zK e.q (c e.dst.toNat j))) :=
      ⟨tE e :: l, by simp only [List.length_cons]; omega, ⟨⟨e, he, rfl⟩, rfl, l2⟩, by rw [t2, l3]; rfl⟩
    split
    · rename_i h2
      have hself : putF out e.src.toNat j (zK e.q (c e.dst.toNat j)) e.src.toNat j = zK e.q (c e.dst.toNat j) := by unfold putF; rw [if_pos ⟨rfl, rfl⟩]
      have hne : (zK e.q (c e.dst.toNat j)).n ≠ 0 := by have := t1.1; omega
      refine ⟨fun x y hxy => ?_, fun x y v hv => ?_, fun _ => ?_⟩
      · unfold putF at hxy ⊢
        split
        · rename_i hx; rw [hx.1, hx.2]; exact ⟨t1, hreal⟩
        · rename_i hx; rw [if_neg hx] at hxy; exact ho x y hxy
      · by_cases hx : x = e.src.toNat ∧ y = j
        · rw [hx.1, hx.2] at hv ⊢
          refine ⟨by rw [hself]; exact hne, ?_⟩
          rw [hself]
          rcases h2 with h2 | h2
          · exact absurd h2 hv.1
          · have : decide (cmpR (zK e.q (c e.dst.toNat j)) (out e.src.toNat j) < 0) = true := decide_eq_true h2
            rw [cmp_lt, ltR_iff t1.2.1 (ho _ _ hv.1).1.2.1] at this
            exact Rat.le_trans (Rat.le_of_lt this) hv.2
        · unfold Atm putF
          rw [if_neg hx]; exact hv
      · refine ⟨by rw [hself]; exact hne, ?_⟩
        rw [hself, t2]; exact Rat.le_refl
    · rename_i h2
      refine ⟨ho, fun _ _ _ h => h, fun _ => ?_⟩
      have h3 : (out e.src.toNat j).n ≠ 0 := fun h3 => h2 (.inl h3)
      refine ⟨h3, ?_⟩
      have h4 : decide (cmpR (zK e.q (c e.dst.toNat j)) (out e.src.toNat j) < 0) = false := decide_eq_false fun h4 => h2 (.inr h4)
      rw [cmp_lt] at h4
      have : ¬ vR (zK e.q (c e.dst.toNat j)) < vR (out e.src.toNat j) := fun h5 => by
        rw [(ltR_iff t1.2.1 (ho _ _ h3).1.2.1).2 h5] at h4; cases h4
      rw [Rat.not_lt, t2] at this
      exact this
theorem inner_all (hc : Good (inE es) n c) {e : Edge} (he : e ∈ es) (hb : eB e) : ∀ (m j : Nat) {out : NetF}, Good (inE es) (n + 1) out →
    Good (inE es) (n + 1) (innerF c e m j out) ∧ (∀ x y v, Atm out x y v → Atm (innerF c e m j out) x y v) ∧ (∀ i, j ≤ i → i < j + m → (c e.dst.toNat i).n ≠ 0 → Atm (innerF c e m j out) e.src.toNat i (vR e.q * vR (c e.dst.toNat i)))
  | 0, j, out, ho => ⟨ho, fun _ _ _ h => h, fun i h1 h2 => by omega⟩
  | m + 1, j, out, ho => by
    obtain ⟨s1, s2, s3⟩ := step_all hc he hb ho j
    obtain ⟨i1, i2, i3⟩ := inner_all hc he hb m (j + 1) s1
    refine ⟨i1, fun x y v h => i2 x y v (s2 x y v h), fun i h1 h2 h3 => ?_⟩
    by_cases hij : i = j
    · subst hij; exact i2 _ _ _ (s3 h3)
    · exact i3 i (by omega) (by omega) h3
theorem fold_all (hc : Good (inE es) n c) : ∀ {l : List Edge}, (∀ e ∈ l, e ∈ es ∧ eB e) → ∀ {out : NetF}, Good (inE es) (n + 1) out →
    Good (inE es) (n + 1) (foldF c l out) ∧ (∀ x y v, Atm out x y v → Atm (foldF c l out) x y v) ∧ (∀ e ∈ l, ∀ i, i < 5 → (c e.dst.toNat i).n ≠ 0 → Atm (foldF c l out) e.src.toNat i (vR e.q * vR (c e.dst.toNat i)))
  | [], _, out, ho => ⟨ho, fun _ _ _ h => h, fun e h => by cases h⟩
  | e :: l, hl, out, ho => by
    obtain ⟨s1, s2, s3⟩ := inner_all hc (hl e (by simp)).1 (hl e (by simp)).2 5 0 ho
    obtain ⟨i1, i2, i3⟩ := fold_all hc (l := l) (fun e' h' => hl e' (List.mem_cons_of_mem _ h')) s1
    refine ⟨i1, fun x y v h => i2 x y v (s2 x y v h), fun e' h' i hi h3 => ?_⟩
    rcases List.mem_cons.1 h' with rfl | h'
    · exact i2 _ _ _ (s3 i (by omega) (by omega) h3)
    · exact i3 e' h' i hi h3
theorem exa_step (hes : ∀ e ∈ es, eB e) (hc : Exa (inE es) n c) : Exa (inE es) (n + 1) (foldF c es c) := by
  obtain ⟨f1, f2, f3⟩ := fold_all hc.1 (l := es) (fun e he => ⟨he, hes e he⟩) (good_mono (Nat.le_succ n) hc.1)
  refine ⟨f1, fun x y hx hy l hl hch => ?_⟩
  cases l with
  | nil => exact f2 _ _ _ (hc.2 x y hx hy [] (Nat.zero_le _) hch)
  | cons t l =>
    obtain ⟨⟨e, he, rfl⟩, rfl, h3⟩ := hch
    have hb := hes e he
    have hd : (tE e).dst < 5 := by show e.dst.toNat < 5; have := hb.2.2.1; have := hb.2.2.2.1; omega
    have ha := hc.2 (tE e).dst y hd hy l (by simp only [List.length_cons] at hl; omega) h3
    obtain ⟨g1, g2⟩ := f3 e he y hy ha.1
    refine ⟨g1, Rat.le_trans g2 ?_⟩
    have hq : (0 : Rat) ≤ vR e.q := Rat.le_of_lt (vq_pos (by have := hb.2.2.2.2.1; omega) (by have := hb.2.2.2.2.2.2.1; omega))
    exact Rat.mul_le_mul_of_nonneg_left ha.2 hq
theorem exa_iter (hes : ∀ e ∈ es, eB e) : ∀ (m k : Nat) (c : NetF), Exa (inE es) k c → Exa (inE es) (k + m) (iterF es m c)
  | 0, _, _, h => h
  | m + 1, k, c, h => by
    have := exa_iter hes m (k + 1) _ (exa_step hes h)
    rw [show k + (m + 1) = k + 1 + m by omega]; exact this
end
theorem exa_start (E : T → Prop) : Exa E 0 startF := by
  refine ⟨fun x y h => ?_, fun x y hx hy l hl hch => ?_⟩
  · unfold startF at h ⊢
    split
    · rename_i hxy
      exact ⟨⟨by decide, by decide, by decide⟩, [], Nat.le_refl _, hxy.1, one_vR⟩
    · rename_i hxy; rw [if_neg hxy] at h; exact absurd rfl h
  · cases l with
    | nil =>
      obtain rfl : x = y := hch
      unfold Atm startF
      rw [if_pos ⟨rfl, hx⟩]
      exact ⟨by decide, by rw [show vR ⟨1, 1⟩ = 1 from one_vR]; exact Rat.le_refl⟩
    | cons t l => simp at hl
theorem net_exa {p : Paper} (hok : zn p = true) (ax : Int) : Exa (inE (refE p ax)) 5 (netR p ax) := by
  have := exa_iter (refE_B hok ax) 5 0 startF (exa_start _)
  exact this
/-! ### the nodes' other names -/
def sig (u k : Nat) : Nat := if k = 0 then u else k - 1
def sigT (u : Nat) (t : T) : T := ⟨sig u t.src, sig u t.dst, t.w⟩
theorem tE_ref {u : Nat} {e : Edge} (hb : edgeB e) : tE (refOf u e) = sigT u (tE e) := by
  obtain ⟨b1, b2, b3, b4, b5, b6, b7, b8⟩ := hb
  unfold tE refOf sigT sig
  simp only [T.mk.injEq]
  refine ⟨?_, ?_, (low_red b5 b7).2⟩
  · by_cases h : e.src = 0
    · rw [if_pos h, if_pos (by omega)]; omega
    · rw [if_neg h, if_neg (by omega)]; omega
  · by_cases h : e.dst = 0
    · rw [if_pos h, if_pos (by omega)]; omega
    · rw [if_neg h, if_neg (by omega)]; omega
theorem inE_ref {p : Paper} (hok : zn p = true) {ax : Int} {u : Nat} (hu : p.sheets = u) {t : T} : inE (refE p ax) t ↔ ∃ t', inE (zA p ax) t' ∧ sigT u t' = t := by
  unfold inE refE
  constructor
  · rintro ⟨e, he, rfl⟩
    obtain ⟨e', h1, rfl⟩ := List.mem_map.1 he
    have h2 := mem_refB.1 h1
    rw [hu, tE_ref (edge_nodes hok h2).1]
    exact ⟨_, ⟨e', h2, rfl⟩, rfl⟩
  · rintro ⟨t', ⟨e, he, rfl⟩, rfl⟩
    refine ⟨refOf p.sheets e, List.mem_map.2 ⟨e, mem_refB.2 he, rfl⟩, ?_⟩
    rw [hu, tE_ref (edge_nodes hok he).1]
theorem inE_le {p : Paper} (hok : zn p = true) {ax : Int} {u : Nat} (hu : p.sheets = u) {t : T} (h : inE (zA p ax) t) : t.src ≤ u ∧ t.dst ≤ u := by
  obtain ⟨e, he, rfl⟩ := h
  obtain ⟨b, h1, h2⟩ := edge_nodes hok he
  have := b.1; have := b.2.2.1
  constructor
  · show e.src.toNat ≤ u; omega
  · show e.dst.toNat ≤ u; omega
theorem sig_inj {u a b : Nat} (ha : a ≤ u) (hb : b ≤ u) (h : sig u a = sig u b) : a = b := by
  unfold sig at h
  split at h <;> split at h <;> omega
theorem ch_fwd {p : Paper} (hok : zn p = true) {ax : Int} {u : Nat} (hu : p.sheets = u) : ∀ {l : List T} {a b : Nat}, Ch (inE (zA p ax)) a l b → Ch (inE (refE p ax)) (sig u a) (l.map (sigT u)) (sig u b) ∧ pr (l.map (sigT u)) = pr l
  | [], _, _, h => ⟨by rw [show _ = _ from h]; rfl, rfl⟩
  | t :: l, _, _, h => by
    obtain ⟨i1, i2⟩ := ch_fwd hok hu h.2.2
    refine ⟨⟨(inE_ref hok hu).2 ⟨t, h.1, rfl⟩, by rw [← h.2.1]; rfl, i1⟩, ?_⟩
    show t.w * pr (l.map (sigT u)) = t.w * pr l
    rw [i2]
theorem ch_back {p : Paper} (hok : zn p = true) {ax : Int} {u : Nat} (hu : p.sheets = u) : ∀ {l : List T} {a y : Nat}, a ≤ u → Ch (inE (refE p ax)) (sig u a) l y → ∃ l' b, Ch (inE (zA p ax)) a l' b ∧ b ≤ u ∧ sig u b = y ∧ pr l = pr l' ∧ l'.length = l.length
  | [], a, _, ha, h => ⟨[], a, rfl, ha, h, rfl, rfl⟩
  | t :: l, a, y, ha, h => by
    obtain ⟨t', h1, rfl⟩ := (inE_ref hok hu).1 h.1
    obtain ⟨n1, n2⟩ := inE_le hok hu h1
    have hs : t'.src = a := sig_inj n1 ha h.2.1
    obtain ⟨l', b, i1, i2, i3, i4, i5⟩ := ch_back hok hu (l := l) n2 h.2.2
    refine ⟨t' :: l', b, ⟨h1, hs, i1⟩, i2, i3, ?_, by simp [i5]⟩
    show t'.w * pr l = t'.w * pr l'
    rw [i4]
/-- In a paper that allows factors the reference's nets are the least quotients. -/
theorem net_dist {p : Paper} (hok : zn p = true) {ax : Int} (hc : clashA p ax = none) {u : Nat} (hu : p.sheets = u) {a b : Nat} (ha : a ≤ u) (hb : b ≤ u) : netR p ax (sig u a) (sig u b) = distF p ax a b := by
  obtain ⟨u', hu', u1, u2⟩ := sheet_pos hok
  obtain rfl : u' = u := by omega
  have sl : ∀ k, k ≤ u' → sig u' k < 5 := by intro k hk; unfold sig; split <;> omega
  obtain ⟨x1, x2⟩ := net_exa hok ax
  obtain ⟨r1, w, w1, w2, w3⟩ := dist_real hok ax (show (a : Int) < 1 + p.sheets by omega) (show (b : Int) < 1 + p.sheets by omega)
  obtain ⟨f1, f2⟩ := ch_fwd hok hu w1.1
  obtain ⟨n1, n2⟩ := x2 (sig u' a) (sig u' b) (sl a ha) (sl b hb) _ (by rw [List.length_map, List.length_map]; omega) f1
  obtain ⟨r2, l, l1, l2, l3⟩ := x1 _ _ n1
  obtain ⟨l', b', i1, i2, i3, i4, _⟩ := ch_back hok hu ha l2
  obtain rfl : b' = b := sig_inj i2 hb i3
  obtain ⟨v, rfl, hv⟩ := inE_walk i1
  refine red_eq r2 r1 (Rat.le_antisymm ?_ ?_)
  · rw [w3]; rw [f2] at n2; exact n2
  · rw [l3, i4]; exact dist_least hok hc (by omega) (by omega) hv
theorem clash_some {es : List Edge} {c : Chn} : ∀ {j i : Nat}, clashFrom es j i = some c → ∃ k, i ≤ k ∧ k < i + j ∧ (zI es k 5)[k]? = some (some c) ∧ ltR c.q one1 = true
  | 0, _, h => by cases h
  | j + 1, i, h => by
    unfold clashFrom at h
    split at h
    · rename_i c' hc'
      split at h
      · rename_i hl
        cases h
        exact ⟨i, Nat.le_refl _, by omega, hc', hl⟩
      · obtain ⟨k, k1, k2, k3⟩ := clash_some h
        exact ⟨k, by omega, by omega, k3⟩
    · obtain ⟨k, k1, k2, k3⟩ := clash_some h
      exact ⟨k, by omega, by omega, k3⟩
def diagOK (c : NetF) (i : Nat) : Bool := !decide ((c i i).n < (c i i).d)
theorem can_iff {p : Paper} (hok : zn p = true) (ax : Int) : (∀ i, i < 5 → diagOK (netR p ax) i = true) ↔ clashA p ax = none := by
  obtain ⟨u, hu, u1, u2⟩ := sheet_pos hok
  obtain ⟨x1, x2⟩ := net_exa hok ax
  have sl : ∀ k, k ≤ u → sig u k < 5 := by intro k hk; unfold sig; split <;> omega
  constructor
  · intro h
    cases hc : clashA p ax with
    | none => rfl
    | some c =>
      exfalso
      obtain ⟨k, k1, k2, k3, k4⟩ := clash_some hc
      have hk : k ≤ u := by omega
      obtain ⟨m, m1, m2, w, w1, w2, w3, w4, w5⟩ := (chains_spec (fun e he => (edge_nodes hok he).1) (show k < 5 by omega) 5).2.1 k c k3
      obtain ⟨f1, f2⟩ := ch_fwd hok hu w2.1
      obtain ⟨n1, n2⟩ := x2 (sig u k) (sig u k) (sl k hk) (sl k hk) _ (by rw [List.length_map, List.length_map]; omega) f1
      have hd := h (sig u k) (sl k hk)
      unfold diagOK at hd
      simp only [Bool.not_eq_true', decide_eq_false_iff_not] at hd
      apply hd
      have r := (x1 _ _ n1).1
      rw [ltR_iff w5.2.1 (by decide), w3, one_vR] at k4
      have : vR (netR p ax (sig u k) (sig u k)) < vR one1 := by
        rw [one_vR]
        rw [f2] at n2
        exact Rat.not_le.1 fun h6 => Rat.not_le.2 k4 (Rat.le_trans h6 n2)
      have := (ltR_iff r.2.1 (by decide)).2 this
      simpa [ltR, one1] using this
  · intro hc i hi
    have h1 : redR (netR p ax i i) ∧ 1 ≤ vR (netR p ax i i) := by
      by_cases hiu : i ≤ u
      · obtain ⟨k, hk, rfl⟩ : ∃ k, k ≤ u ∧ sig u k = i := by
          by_cases h : i = u
          · exact ⟨0, by omega, by unfold sig; rw [if_pos rfl]; omega⟩
          · exact ⟨i + 1, by omega, by unfold sig; rw [if_neg (by omega)]; omega⟩
        rw [net_dist hok hc hu hk hk]
        unfold distF
        rw [if_pos rfl, one_vR]
        exact ⟨⟨by decide, by decide, by decide⟩, Rat.le_refl⟩
      · obtain ⟨n1, -⟩ := x2 i i hi hi [] (by simp) rfl
        obtain ⟨r, l, l1, l2, l3⟩ := x1 i i n1
        refine ⟨r, ?_⟩
        cases l with
        | nil => rw [l3]; exact Rat.le_refl
        | cons t l =>
          obtain ⟨t', h1, rfl⟩ := (inE_ref hok hu).1 l2.1
          obtain ⟨q1, _⟩ := inE_le hok hu h1
          have : sig u t'.src = i := l2.2.1
          unfold sig at this
          split at this <;> omega
    unfold diagOK
    simp only [Bool.not_eq_true', decide_eq_false_iff_not]
    intro hlt
    have : ltR (netR p ax i i) one1 = true := by simp [ltR, one1]; omega
    rw [ltR_iff h1.1.2.1 (by decide), one_vR] at this
    exact absurd this (Rat.not_lt.2 h1.2)
end Go.VS
/-
  What the reference's functions answer is what the program's answer. (A text of this claim's own; nothing of it is trusted.)
-/
namespace Go.VS
open Go Go.VS.Walks
def diagAll (c : NetF) : Bool := diagOK c 0 && (diagOK c 1 && (diagOK c 2 && (diagOK c 3 && diagOK c 4)))
def canF (p : Paper) : Bool := diagAll (netR p 0) && diagAll (netR p 1)
theorem diagAll_iff {c : NetF} : diagAll c = true ↔ ∀ i, i < 5 → diagOK c i = true := by
  unfold diagAll
  simp only [Bool.and_eq_true]
  constructor
  · rintro ⟨h0, h1, h2, h3, h4⟩ i hi
    have : i = 0 ∨ i = 1 ∨ i = 2 ∨ i = 3 ∨ i = 4 := by omega
    rcases this with rfl | rfl | rfl | rfl | rfl <;> assumption
  · intro h; exact ⟨h 0 (by omega), h 1 (by omega), h 2 (by omega), h 3 (by omega), h 4 (by omega)⟩
theorem can_possible {p : Paper} (hok : zn p = true) : canF p = possibleF p := by
  have key : ∀ ax, diagAll (netR p ax) = (clashA p ax).isNone := by
    intro ax
    rw [Bool.eq_iff_iff, diagAll_iff, can_iff hok ax, Option.isNone_iff_eq_none]
  unfold canF possibleF
  rw [key, key]
theorem lo_dist2 (p : Paper) (ax : Int) (i : Nat) : loF p i ax = ⟨(distF p ax 0 (1 + i)).d, (distF p ax 0 (1 + i)).n⟩ := by
  unfold loF upF upO distF
  rw [show (1 + (i : Int)).toNat = 1 + i by omega, if_neg (by omega)]
section
variable {p : Paper} (hok : zn p = true) {ax : Int} (hc : clashA p ax = none) {u : Nat} (hu : p.sheets = u)
include hok hc hu
theorem net_lo {i : Nat} (hi : i < u) : loF p i ax = ⟨(netR p ax u i).d, (netR p ax u i).n⟩ := by
  have := net_dist hok hc hu (a := 0) (b := 1 + i) (by omega) (by omega)
  rw [show sig u 0 = u from rfl, show sig u (1 + i) = i by unfold sig; rw [if_neg (by omega)]; omega] at this
  rw [lo_dist2, this]
theorem net_hi {i : Nat} (hi : i < u) : hiF p i ax = netR p ax i u := by
  have := net_dist hok hc hu (a := 1 + i) (b := 0) (by omega) (by omega)
  rw [show sig u 0 = u from rfl, show sig u (1 + i) = i by unfold sig; rw [if_neg (by omega)]; omega] at this
  rw [hi_dist, this]
theorem net_betw {i j : Nat} (hi : i < u) (hj : j < u) : betwF p i j ax = netR p ax i j := by
  have := net_dist hok hc hu (a := 1 + i) (b := 1 + j) (by omega) (by omega)
  rw [show sig u (1 + j) = j by unfold sig; rw [if_neg (by omega)]; omega, show sig u (1 + i) = i by unfold sig; rw [if_neg (by omega)]; omega] at this
  rw [betw_dist, this]
end
end Go.VS
/-
  How large least quotients are; what a zl times a ratio comes to, rounded. (A text of this claim's own; nothing of it is trusted.)
-/
namespace Go.VS
open Go Go.VS.Walks
def prI (f : Edge → Int) : List Edge → Int
  | [] => 1
  | e :: w => f e * prI f w
theorem prE_frac (w : List Edge) : prE w = vq (prI (fun e => e.q.n) w) (prI (fun e => e.q.d) w) := by
  induction w with
  | nil => exact vq_one.symm
  | cons e w ih =>
    show vR e.q * prE w = _
    rw [ih]
    unfold vR
    rw [vq_mul]
    rfl
theorem prI_le {f : Edge → Int} {B : Int} (hB : 1 ≤ B) : ∀ {w : List Edge}, (∀ e ∈ w, 1 ≤ f e ∧ f e ≤ B) → 1 ≤ prI f w ∧ prI f w ≤ B ^ w.length
  | [], _ => ⟨Int.le_refl _, by simp [prI]⟩
  | e :: w, h => by
    obtain ⟨i1, i2⟩ := prI_le hB (w := w) fun e' h' => h e' (List.mem_cons_of_mem _ h')
    obtain ⟨a, b⟩ := h e (by simp)
    constructor
    · have := Int.mul_le_mul a i1 (by omega) (by omega)
      show 1 ≤ f e * prI f w
      omega
    · show f e * prI f w ≤ B ^ (w.length + 1)
      rw [Int.pow_succ, Int.mul_comm]
      exact Int.mul_le_mul i2 b (by omega) (by have := Int.pow_pos (n := B) (m := w.length) (by omega); omega)
theorem den_le {r : Ratio} (hr : redR r) {N M : Int} (hM : 1 ≤ M) (h : vR r = vq N M) : r.d ≤ M := by
  obtain ⟨h1, h2, h3⟩ := hr
  have e1 := (vq_le (n := r.n) (d := r.d) (n' := N) (d' := M) (by omega) (by omega)).1 (by rw [← h]; exact Rat.le_refl)
  have e2 := (vq_le (n := N) (d := M) (n' := r.n) (d' := r.d) (by omega) (by omega)).1 (by rw [← h]; exact Rat.le_refl)
  have e : r.n * M = N * r.d := by omega
  obtain ⟨n, hn⟩ := Int.eq_ofNat_of_zero_le (show 0 ≤ r.n by omega)
  obtain ⟨d, hd⟩ := Int.eq_ofNat_of_zero_le (show 0 ≤ r.d by omega)
  obtain ⟨m, hm⟩ := Int.eq_ofNat_of_zero_le (show 0 ≤ M by omega)
  have hd1 : (d : Int) ∣ (n * m : Nat) := ⟨N, by rw [← hd, Int.natCast_mul, ← hn, ← hm, e, Int.mul_comm]⟩
  have hd2 := Int.natCast_dvd_natCast.1 hd1
  have hc : Nat.Coprime d n := by
    rw [hd, hn] at h3
    simpa [Nat.Coprime] using h3
  have hd3 := Nat.le_of_dvd (by omega) (hc.dvd_of_dvd_mul_left hd2)
  omega
theorem edge_den {p : Paper} (hok : zn p = true) {ax : Int} {e : Edge} (he : e ∈ zA p ax) : 1 ≤ e.q.d ∧ e.q.d ≤ 1000 := by
  obtain ⟨o1, o2, o3, o4, o5, o6⟩ := zC hok
  simp only [zA, List.mem_append, List.mem_flatMap, List.mem_range'_1] at he
  rcases he with (⟨i, hi, he⟩ | he) | he
  · simp [zJ] at he
    rcases he with rfl | rfl <;> simp only [] <;> omega
  · obtain ⟨m, k, h1, h2, h3⟩ := marksE_mem ax he
    have := o5 m h1
    simp [markOK, zw, isAxis, isSeen] at this
    simp [markE] at h3
    rcases h3 with rfl | rfl <;> simp only [] <;> omega
  · obtain ⟨m, k, h1, h2, h3⟩ := joinsE_mem ax he
    have := o6 m h1
    simp [joinOK, zw, isAxis, isSeen] at this
    simp [joinE] at h3
    rcases h3 with rfl | rfl <;> simp only [] <;> omega
theorem dist_den {p : Paper} (hok : zn p = true) (ax : Int) {s t : Nat} (hs : s < 1 + p.sheets) (ht : t < 1 + p.sheets) : (distF p ax s t).d ≤ 1000000000000 := by
  obtain ⟨r, w, w1, w2, w3⟩ := dist_real hok ax hs ht
  rw [prE_frac] at w3
  obtain ⟨a, b⟩ := prI_le (f := fun e => e.q.d) (B := 1000) (by decide) (w := w) fun e he => edge_den hok (w1.2 e he)
  have := den_le r a w3
  have h4 : (1000 : Int) ^ w.length ≤ 1000000000000 := by
    have : w.length = 0 ∨ w.length = 1 ∨ w.length = 2 ∨ w.length = 3 ∨ w.length = 4 := by omega
    rcases this with h | h | h | h | h <;> rw [h] <;> decide
  omega
/-- Ratios as they come up: in lowest terms, between a half and two. -/
def goodQ (r : Ratio) : Prop := redR r ∧ r.n ≤ 2 * r.d ∧ r.d ≤ 2 * r.n ∧ r.n ≤ 2000000000000 ∧ r.d ≤ 2000000000000
theorem goodQ_inv {r : Ratio} (h : goodQ r) : goodQ ⟨r.d, r.n⟩ := by
  obtain ⟨⟨a, b, c⟩, d, e, f, g⟩ := h
  exact ⟨⟨b, a, by rw [Int.gcd_comm]; exact c⟩, e, d, g, f⟩
theorem vR_two {r : Ratio} (hr : redR r) : vR r ≤ 2 ↔ r.n ≤ 2 * r.d := by
  have h2 : vR ⟨2, 1⟩ = 2 := by decide
  rw [← h2]
  unfold vR
  rw [vq_le (by have := hr.2.1; omega) (by decide)]
  constructor <;> intro h <;> simp only [] at h ⊢ <;> omega
section
variable {p : Paper} (hok : zn p = true) {ax : Int} (hc : clashA p ax = none) {i : Nat} (hi : (i : Int) < p.sheets)
include hok hc hi
theorem dist_two : vR (distF p ax (1 + i) 0) ≤ 2 ∧ vR (distF p ax 0 (1 + i)) ≤ 2 := by
  have b1 : ((1 + i : Nat) : Int) < 1 + p.sheets := by omega
  have b0 : ((0 : Nat) : Int) < 1 + p.sheets := by omega
  have hin : ∀ e ∈ zJ i, e ∈ zA p ax := by
    intro e he
    simp only [zA, List.mem_append, List.mem_flatMap, List.mem_range'_1]
    exact .inl (.inl ⟨i, by omega, he⟩)
  have h2 : vR ⟨2, 1⟩ = 2 := by decide
  have hp1 : ∀ e ∈ zJ i, prE [e] = 2 := by
    intro e he
    simp [zJ] at he
    rcases he with rfl | rfl <;> (simp only [prE, pr, tE, List.map_cons, List.map_nil]; rw [h2, Rat.mul_one])
  constructor
  · have hw := wk_one (hin ⟨1 + i, 0, ⟨2, 1⟩, ⟨false, -1 - i, false⟩⟩ (by simp [zJ]))
    rw [show ((1 + (i : Int)).toNat) = 1 + i by omega] at hw
    have := dist_least hok hc b1 b0 hw
    rwa [hp1 _ (by simp [zJ])] at this
  · have hw := wk_one (hin ⟨0, 1 + i, ⟨2, 1⟩, ⟨false, -1 - i, true⟩⟩ (by simp [zJ]))
    rw [show ((1 + (i : Int)).toNat) = 1 + i by omega] at hw
    have := dist_least hok hc b0 b1 hw
    rwa [hp1 _ (by simp [zJ])] at this
theorem dist_good : goodQ (distF p ax (1 + i) 0) ∧ goodQ (distF p ax 0 (1 + i)) := by
  have b1 : ((1 + i : Nat) : Int) < 1 + p.sheets := by omega
  have b0 : ((0 : Nat) : Int) < 1 + p.sheets := by omega
  obtain ⟨r1, w, w1, -, w3⟩ := dist_real hok ax b1 b0
  obtain ⟨r2, v, v1, -, v3⟩ := dist_real hok ax b0 b1
  obtain ⟨t1, t2⟩ := dist_two hok hc hi
  have d1 := dist_den hok ax b1 b0
  have d2 := dist_den hok ax b0 b1
  have hp : ∀ t, inE (zA p ax) t → 0 < t.w := fun t h => (in_pos hok h).1
  have hn : ∀ t, inE (zA p ax) t → t.src < 5 ∧ t.dst < 5 := fun t h => (in_pos hok h).2
  have hone := closed_one hp hn (fair hok hc) (wk_append w1 v1).1
  have hone' : 1 ≤ vR (distF p ax (1 + i) 0) * vR (distF p ax 0 (1 + i)) := by rw [w3, v3, ← prE_append]; exact hone
  generalize distF p ax (1 + i) 0 = x at *
  generalize distF p ax 0 (1 + i) = y at *
  have x2 := (vR_two r1).1 t1
  have y2 := (vR_two r2).1 t2
  have hx := red_pos r1
  have hy := red_pos r2
  have key : ∀ a b : Ratio, redR a → redR b → vR b ≤ 2 → 1 ≤ vR a * vR b → a.d ≤ 2 * a.n := by
    intro a b ha hb h1 h2
    have h3 := Rat.mul_le_mul_of_nonneg_left h1 (Rat.le_of_lt (red_pos ha))
    have h4 := Rat.le_trans h2 h3
    have h5 : (1 : Rat) = vq 1 1 := vq_one.symm
    have h6 : (2 : Rat) = vq 2 1 := by decide
    rw [h5, h6] at h4
    unfold vR at h4
    rw [vq_mul, vq_le (by decide) (by have := ha.2.1; omega)] at h4
    omega
  exact ⟨⟨r1, x2, key x y r1 r2 t2 hone', by omega, by omega⟩, ⟨r2, y2, key y x r2 r1 t1 (by rw [Rat.mul_comm]; exact hone'), by omega, by omega⟩⟩
theorem hi_good : goodQ (hiF p i ax) := by rw [hi_dist]; exact (dist_good hok hc hi).1
theorem lo_good : goodQ (loF p i ax) := by rw [lo_dist2]; exact goodQ_inv (dist_good hok hc hi).2
end
/-- A zl times a ratio, rounded down, and up. -/
def dnF (x : Int) (r : Ratio) : Int := x * r.n / r.d
def upR (x : Int) (r : Ratio) : Int := if x * r.n % r.d = 0 then x * r.n / r.d else x * r.n / r.d + 1
def outF (s : Span) (a b : Ratio) : Span := ⟨dnF s.lo a, upR s.hi b⟩
def invR (r : Ratio) : Ratio := ⟨r.d, r.n⟩
theorem mul_le2 {x : Int} {r : Ratio} (h0 : 0 ≤ x) (hr : goodQ r) {B : Int} (hB : x ≤ B) : 0 ≤ x * r.n ∧ x * r.n ≤ B * 2000000000000 ∧ 0 ≤ dnF x r ∧ dnF x r ≤ 2 * x := by
  obtain ⟨⟨a, b, c⟩, d, e, f, g⟩ := hr
  have h1 := Int.mul_nonneg h0 (show 0 ≤ r.n by omega)
  refine ⟨h1, Int.mul_le_mul hB f (by omega) (by omega), Int.ediv_nonneg h1 (by omega), ?_⟩
  unfold dnF
  have : x * r.n ≤ 2 * x * r.d := by
    have := Int.mul_le_mul_of_nonneg_left d h0
    rw [← Int.mul_assoc, Int.mul_comm x 2] at this
    exact this
  exact Int.ediv_le_of_le_mul (by omega) this
theorem up_le2 {x : Int} {r : Ratio} (h0 : 0 ≤ x) (hr : goodQ r) : 0 ≤ upR x r ∧ upR x r ≤ 2 * x + 1 ∧ dnF x r ≤ upR x r := by
  obtain ⟨a, b, c, d⟩ := mul_le2 h0 hr (Int.le_refl x)
  unfold upR dnF at *
  split <;> omega
end Go.VS
/-
  Lists of reasons: what they lead to, in the program's words and in the reference's. (A text of this claim's own; nothing of it is trusted.)
-/
namespace Go.VS
open Go Go.VS.Walks
theorem eqW_iff {x y : Reason} : eqW x y = true ↔ x = y := by
  obtain ⟨a, b, c⟩ := x
  obtain ⟨d, e, f⟩ := y
  simp [eqW]
theorem marksE_ix (ax : Int) {e : Edge} : ∀ {l : List Mark} {i : Nat}, e ∈ marksE ax l i → ∃ k m, l[k]? = some m ∧ e ∈ markE m (i + k)
  | [], _, h => by cases h
  | m :: l, i, h => by
    simp only [marksE, List.mem_append] at h
    rcases h with h | h
    · split at h
      · exact ⟨0, m, rfl, h⟩
      · cases h
    · obtain ⟨k, m', h1, h2⟩ := marksE_ix ax h
      exact ⟨k + 1, m', h1, by rw [show i + (k + 1) = i + 1 + k by omega]; exact h2⟩
theorem joinsE_ix (ax : Int) {e : Edge} : ∀ {l : List Join} {i : Nat}, e ∈ joinsE ax l i → ∃ k m, l[k]? = some m ∧ e ∈ joinE m (i + k)
  | [], _, h => by cases h
  | m :: l, i, h => by
    simp only [joinsE, List.mem_append] at h
    rcases h with h | h
    · split at h
      · exact ⟨0, m, rfl, h⟩
      · cases h
    · obtain ⟨k, m', h1, h2⟩ := joinsE_ix ax h
      exact ⟨k + 1, m', h1, by rw [show i + (k + 1) = i + 1 + k by omega]; exact h2⟩
theorem edges_ix {p : Paper} {ax : Int} {e : Edge} (h : e ∈ zA p ax) : (∃ i : Nat, e ∈ zJ i) ∨ (∃ k m, p.marks[k]? = some m ∧ e ∈ markE m k) ∨ ∃ k m, p.joins[k]? = some m ∧ e ∈ joinE m k := by
  simp only [zA, List.mem_append, List.mem_flatMap, List.mem_range'_1] at h
  rcases h with (⟨i, hi, he⟩ | he) | he
  · exact .inl ⟨i, he⟩
  · obtain ⟨k, m, h1, h2⟩ := marksE_ix ax he
    rw [Nat.zero_add] at h2
    exact .inr (.inl ⟨k, m, h1, h2⟩)
  · obtain ⟨k, m, h1, h2⟩ := joinsE_ix ax he
    rw [Nat.zero_add] at h2
    exact .inr (.inr ⟨k, m, h1, h2⟩)
/-- A reason names one thing along an axis. -/
theorem why_inj {p : Paper} {ax : Int} {e e' : Edge} (h : e ∈ zA p ax) (h' : e' ∈ zA p ax) (hw : e.why = e'.why) : e = e' := by
  rcases edges_ix h with ⟨i, h⟩ | ⟨i, m, hm, h⟩ | ⟨i, m, hm, h⟩ <;> rcases edges_ix h' with ⟨i', h'⟩ | ⟨i', m', hm', h'⟩ | ⟨i', m', hm', h'⟩ <;>
    simp only [zJ, markE, joinE, List.mem_cons, List.not_mem_nil, or_false] at h h' <;> rcases h with rfl | rfl <;> rcases h' with rfl | rfl <;> simp at hw
  · have : i = i' := by omega
    subst this; rfl
  · have : i = i' := by omega
    subst this; rfl
  · omega
  · omega
  · omega
  · omega
  · have : i = i' := by omega
    subst this; rw [hm] at hm'; cases hm'; rfl
  · have : i = i' := by omega
    subst this; rw [hm] at hm'; cases hm'; rfl
  · have : i = i' := by omega
    subst this; rw [hm] at hm'; cases hm'; rfl
  · have : i = i' := by omega
    subst this; rw [hm] at hm'; cases hm'; rfl
def findW (es : List Edge) (r : Reason) : Option Edge := es.find? fun e => eqW e.why r
theorem find_uniq {α : Type} {P : α → Bool} {l : List α} (hu : ∀ a ∈ l, ∀ b ∈ l, P a = true → P b = true → a = b) {a : α} : l.find? P = some a ↔ a ∈ l ∧ P a = true := by
  constructor
  · intro h; exact ⟨List.mem_of_find?_eq_some h, by have := List.find?_some h; exact this⟩
  · rintro ⟨h1, h2⟩
    cases hf : l.find? P with
    | none => exact absurd h2 (by have := List.find?_eq_none.1 hf a h1; exact this)
    | some b => rw [hu b (List.mem_of_find?_eq_some hf) a h1 (by have := List.find?_some hf; exact this) h2]
theorem findW_iff {p : Paper} {ax : Int} {r : Reason} {e : Edge} : findW (zA p ax) r = some e ↔ e ∈ zA p ax ∧ e.why = r := by
  unfold findW
  rw [find_uniq fun a ha b hb h1 h2 => why_inj ha hb ((eqW_iff.1 h1).trans (eqW_iff.1 h2).symm), eqW_iff]
theorem findW_ref {p : Paper} {ax : Int} {r : Reason} : findW (refE p ax) r = (findW (zA p ax) r).map (refOf p.sheets) := by
  have hu : ∀ a ∈ refB p ax, ∀ b ∈ refB p ax, eqW a.why r = true → eqW b.why r = true → a = b := fun a ha b hb h1 h2 => why_inj (mem_refB.1 ha) (mem_refB.1 hb) ((eqW_iff.1 h1).trans (eqW_iff.1 h2).symm)
  have h1 : findW (refE p ax) r = (findW (refB p ax) r).map (refOf p.sheets) := by
    unfold findW refE
    rw [List.find?_map]
    rfl
  rw [h1]
  congr 1
  cases h : findW (zA p ax) r with
  | none =>
    unfold findW at h ⊢
    rw [List.find?_eq_none] at h ⊢
    intro e he; exact h e (mem_refB.1 he)
  | some e =>
    obtain ⟨h2, h3⟩ := findW_iff.1 h
    unfold findW
    rw [find_uniq hu]
    exact ⟨mem_refB.2 h2, eqW_iff.2 h3⟩
/-- What a list of reasons leads to. -/
def goG (es : List Edge) (f : Ratio → Edge → Ratio) : List Reason → Bool → Ratio → Int → Int → Option (Int × Int × Ratio)
  | [], _, q, s, a => some (s, a, q)
  | r :: rs, b, q, s, a => match findW es r with
    | none => none
    | some e => if b = false ∧ e.src ≠ a then none else goG es f rs false (f q e) (if b then e.src else s) e.dst
def lowM (q : Ratio) (e : Edge) : Ratio := lowR (q.n * e.q.n) (q.d * e.q.d)
def timM (q : Ratio) (e : Edge) : Ratio := zK q e.q
def sigI (u x : Int) : Int := if x = 0 then u else x - 1
def sig3 (u : Int) (t : Int × Int × Ratio) : Int × Int × Ratio := (sigI u t.1, sigI u t.2.1, t.2.2)
theorem lowM_spec {q : Ratio} {e : Edge} (hq : redR q) (he : edgeB e) : redR (lowM q e) ∧ vR (lowM q e) = vR q * vR e.q := by
  obtain ⟨b1, b2, b3, b4, b5, b6, b7, b8⟩ := he
  have hn := Int.mul_le_mul hq.1 b5 (by omega) (by have := hq.1; omega)
  have hd := Int.mul_le_mul hq.2.1 b7 (by omega) (by have := hq.2.1; omega)
  obtain ⟨x1, x2⟩ := low_red (n := q.n * e.q.n) (d := q.d * e.q.d) (by omega) (by omega)
  refine ⟨x1, ?_⟩
  unfold lowM
  rw [x2, ← vq_mul]; rfl
theorem low_tim {q : Ratio} {e : Edge} {u : Int} (hq : redR q) (he : edgeB e) : timM q (refOf u e) = lowM q e := by
  obtain ⟨x1, x2⟩ := lowM_spec hq he
  obtain ⟨b1, b2, b3, b4, b5, b6, b7, b8⟩ := he
  obtain ⟨l1, l2⟩ := low_red b5 b7
  obtain ⟨y1, y2⟩ := times_spec (a := q) (b := lowR e.q.n e.q.d) hq.1 hq.2.1 l1.1 l1.2.1
  exact red_eq y1 x1 (by rw [x2, show vR (timM q (refOf u e)) = vR q * vR (lowR e.q.n e.q.d) from y2, l2]; rfl)
theorem sigI_inj {u a b : Int} (ha : 0 ≤ a ∧ a ≤ u) (hb : 0 ≤ b ∧ b ≤ u) : sigI u a = sigI u b ↔ a = b := by
  unfold sigI
  constructor
  · intro h; split at h <;> split at h <;> omega
  · rintro rfl; rfl
theorem edge_in {p : Paper} (hok : zn p = true) {ax : Int} {e : Edge} (he : e ∈ zA p ax) : edgeB e ∧ (0 ≤ e.src ∧ e.src ≤ p.sheets) ∧ (0 ≤ e.dst ∧ e.dst ≤ p.sheets) := by
  obtain ⟨h1, h2, h3⟩ := edge_nodes hok he
  exact ⟨h1, ⟨h1.1, h2⟩, ⟨h1.2.2.1, h3⟩⟩
theorem go_ref {p : Paper} (hok : zn p = true) {ax : Int} : ∀ (l : List Reason) (q : Ratio) (s a : Int), redR q → (0 ≤ a ∧ a ≤ p.sheets) →
    goG (refE p ax) timM l false q (sigI p.sheets s) (sigI p.sheets a) = (goG (zA p ax) lowM l false q s a).map (sig3 p.sheets)
  | [], q, s, a, _, _ => rfl
  | r :: rs, q, s, a, hq, ha => by
    simp only [goG, findW_ref]
    cases h : findW (zA p ax) r with
    | none => rfl
    | some e =>
      obtain ⟨he, -⟩ := findW_iff.1 h
      obtain ⟨hb, h1, h2⟩ := edge_in hok he
      simp only [Option.map_some]
      rw [low_tim hq hb, show (refOf p.sheets e).dst = sigI p.sheets e.dst from rfl, show (refOf p.sheets e).src = sigI p.sheets e.src from rfl]
      have hi := sigI_inj h1 ha
      by_cases hx : e.src = a
      · simp only [ne_eq, hi, hx, not_true_eq_false, and_false, if_false, Bool.false_eq_true]
        exact go_ref hok rs _ s e.dst (lowM_spec hq hb).1 h2
      · simp only [ne_eq, hi, hx, not_false_eq_true, and_true, if_true, Option.map_none]
def followO (p : Paper) (ax : Int) (l : List Reason) : Option (Int × Int × Ratio) := if 1 ≤ l.length ∧ l.length ≤ 5 then goG (zA p ax) lowM l true one1 0 0 else none
def chainO (p : Paper) (ax : Int) (l : List Reason) : Option (Int × Int × Ratio) := if 1 ≤ l.length ∧ l.length ≤ 5 then goG (refE p ax) timM l true one1 0 0 else none
theorem red_one : redR one1 := ⟨by decide, by decide, by decide⟩
theorem chain_follow {p : Paper} (hok : zn p = true) (ax : Int) (l : List Reason) : chainO p ax l = (followO p ax l).map (sig3 p.sheets) := by
  unfold chainO followO
  split
  · cases l with
    | nil => rename_i h; simp at h
    | cons r rs =>
      simp only [goG, findW_ref]
      cases h : findW (zA p ax) r with
      | none => rfl
      | some e =>
        obtain ⟨he, -⟩ := findW_iff.1 h
        obtain ⟨hb, h1, h2⟩ := edge_in hok he
        simp only [Option.map_some]
        rw [low_tim red_one hb]
        simp only [Bool.true_eq_false, false_and, if_false, if_true]
        exact go_ref hok rs _ e.src e.dst (lowM_spec red_one hb).1 h2
  · rfl
/-- What is known where a list leads on. -/
theorem go_inv {p : Paper} (hok : zn p = true) {ax : Int} : ∀ (l : List Reason) (b : Bool) (q : Ratio) (s a : Int) (t : Int × Int × Ratio), goG (zA p ax) lowM l b q s a = some t → redR q → (0 ≤ s ∧ s ≤ p.sheets) → (0 ≤ a ∧ a ≤ p.sheets) → ∀ m : Int, 1 ≤ m → q.n ≤ m → q.d ≤ m → redR t.2.2 ∧ (0 ≤ t.1 ∧ t.1 ≤ p.sheets) ∧ (0 ≤ t.2.1 ∧ t.2.1 ≤ p.sheets) ∧ t.2.2.n ≤ m * 2000 ^ l.length ∧ t.2.2.d ≤ m * 2000 ^ l.length
  | [], b, q, s, a, t, h, hq, hs, ha, m, hm, h1, h2 => by
    cases h
    simp only [List.length_nil, Int.pow_zero, Int.mul_one]
    exact ⟨hq, hs, ha, h1, h2⟩
  | r :: rs, b, q, s, a, t, h, hq, hs, ha, m, hm, h1, h2 => by
    simp only [goG] at h
    cases hf : findW (zA p ax) r with
    | none => rw [hf] at h; cases h
    | some e =>
      rw [hf] at h
      simp only at h
      obtain ⟨he, -⟩ := findW_iff.1 hf
      obtain ⟨hb, k1, k2⟩ := edge_in hok he
      split at h
      · cases h
      · obtain ⟨b1, b2, b3, b4, b5, b6, b7, b8⟩ := hb
        have p1 := Int.mul_le_mul hq.1 b5 (by omega) (by have := hq.1; omega)
        have p2 := Int.mul_le_mul hq.2.1 b7 (by omega) (by have := hq.2.1; omega)
        have p3 : q.n * e.q.n ≤ m * 2000 := Int.mul_le_mul h1 b6 (by omega) (by omega)
        have p4 : q.d * e.q.d ≤ m * 2000 := Int.mul_le_mul h2 b8 (by omega) (by omega)
        obtain ⟨l1, l2, l3, l4⟩ := low_le (n := q.n * e.q.n) (d := q.d * e.q.d) (by omega) (by omega)
        have := go_inv hok rs false (lowM q e) (if b then e.src else s) e.dst t h (lowM_spec hq ⟨b1, b2, b3, b4, b5, b6, b7, b8⟩).1 (by split <;> assumption) k2 (m * 2000) (by omega) (by unfold lowM; omega) (by unfold lowM; omega)
        rw [List.length_cons, Int.pow_succ, Int.mul_comm (2000 ^ rs.length), ← Int.mul_assoc]
        exact this
theorem follow_inv {p : Paper} (hok : zn p = true) {ax : Int} {l : List Reason} {s a : Int} {q : Ratio} (h : followO p ax l = some (s, a, q)) : redR q ∧ (0 ≤ s ∧ s ≤ p.sheets) ∧ (0 ≤ a ∧ a ≤ p.sheets) ∧ q.n ≤ 32000000000000000 ∧ q.d ≤ 32000000000000000 := by
  unfold followO at h
  obtain ⟨o1, o2, -⟩ := zC hok
  split at h
  · rename_i hl
    obtain ⟨r1, r2, r3, r4, r5⟩ := go_inv hok l true one1 0 0 _ h red_one ⟨by omega, by omega⟩ ⟨by omega, by omega⟩ 1 (by omega) (by decide) (by decide)
    have hp : (2000 : Int) ^ l.length ≤ 32000000000000000 := by
      have : l.length = 1 ∨ l.length = 2 ∨ l.length = 3 ∨ l.length = 4 ∨ l.length = 5 := by omega
      rcases this with h | h | h | h | h <;> rw [h] <;> decide
    exact ⟨r1, r2, r3, by simp only [] at r4; omega, by simp only [] at r5; omega⟩
  · cases h
/-- A walk's reasons lead along it. -/
theorem go_walk {p : Paper} (hok : zn p = true) {ax : Int} : ∀ (w : List Edge) (q : Ratio) (s a : Int) (b : Nat), redR q → (0 ≤ a) → Wk (zA p ax) a.toNat w b → ∃ q', goG (zA p ax) lowM (w.map Edge.why) false q s a = some (s, (b : Int), q') ∧ redR q' ∧ vR q' = vR q * prE w
  | [], q, s, a, b, hq, ha, hw => by
    refine ⟨q, ?_, hq, by rw [show prE [] = 1 from rfl, Rat.mul_one]⟩
    have : a.toNat = b := hw.1
    show some (s, a, q) = _
    rw [← this]
    simp only [Option.some.injEq, Prod.mk.injEq, true_and, and_true]
    omega
  | e :: w, q, s, a, b, hq, ha, hw => by
    have hin := hw.2 e (by simp)
    obtain ⟨hb, h1, h2⟩ := edge_in hok hin
    have hs : e.src.toNat = a.toNat := hw.1.2.1
    obtain ⟨x1, x2⟩ := lowM_spec hq hb
    obtain ⟨q', g1, g2, g3⟩ := go_walk hok w (lowM q e) s e.dst b x1 h2.1 ⟨hw.1.2.2, fun e' h' => hw.2 e' (List.mem_cons_of_mem _ h')⟩
    refine ⟨q', ?_, g2, ?_⟩
    · simp only [List.map_cons, goG]
      rw [findW_iff.2 ⟨hin, rfl⟩]
      simp only []
      rw [if_neg (by intro h; omega)]
      exact g1
    · rw [g3, x2, Rat.mul_assoc]; rfl
theorem follow_walk {p : Paper} (hok : zn p = true) {ax : Int} {w : List Edge} {a b : Nat} (h1 : 1 ≤ w.length) (h5 : w.length ≤ 5) (hw : Wk (zA p ax) a w b) : ∃ q, followO p ax (w.map Edge.why) = some ((a : Int), (b : Int), q) ∧ redR q ∧ vR q = prE w := by
  cases w with
  | nil => simp at h1
  | cons e w =>
    have hin := hw.2 e (by simp)
    obtain ⟨hb, k1, k2⟩ := edge_in hok hin
    have hs : e.src.toNat = a := hw.1.2.1
    obtain ⟨x1, x2⟩ := lowM_spec red_one hb
    obtain ⟨q', g1, g2, g3⟩ := go_walk hok w (lowM one1 e) e.src e.dst b x1 k2.1 ⟨hw.1.2.2, fun e' h' => hw.2 e' (List.mem_cons_of_mem _ h')⟩
    refine ⟨q', ?_, g2, ?_⟩
    · unfold followO
      rw [if_pos (by simp only [List.length_map]; exact ⟨h1, h5⟩)]
      simp only [List.map_cons, goG]
      rw [findW_iff.2 ⟨hin, rfl⟩]
      simp only []
      rw [if_neg (by rintro ⟨h, -⟩; simp at h)]
      simp only [if_true]
      rw [g1]
      rw [show e.src = (a : Int) by omega]
    · rw [g3, x2, one_vR, Rat.one_mul]; rfl
end Go.VS
namespace Go.VS
open Go Go.Proofs
set_option maxHeartbeats 0
set_option linter.unusedSimpArgs false

noncomputable def lp112_2 : Code := zz [1, 0, 1, 0, 0] (zo Tryd.f112)
theorem lk112_2 : cfg.keep 112 (zr lp112_2) = [0, 1, 7, 8] := by kernel_rfl

noncomputable def lp93_6 : Code := zz [1, 1, 1, 1, 0, 1, 0, 0] (zo Tryd.f93)
theorem lk93_6 : cfg.keep 93 (zr lp93_6) = [3, 9, 10, 11, 12, 29, 30, 31] := by kernel_rfl

theorem t113 (e : Edge) (r : Reason) : (lim cfg).pure 113 [.agg [I e.src, I e.dst, I e.q.n, I e.q.d, B e.why.join, I e.why.at_, B e.why.back], .ptr (.agg [B r.join, I r.at_, B r.back])] = some (B (eqW e.why r)) := by
  refine zm (zj 113) cfn113 rfl (n := 8) rfl ?_
  simp only [bW, if_true, Nat.reduceEqDiff, if_false, zl]
  repeat' first
    | (intro hb; first | cases hb | skip)
    | ((first | apply z8 | apply ze)
       · rfl
       · simp (disch := assumption) only [go_sem, Nat.reduceEqDiff, Nat.reduceAdd, bP, zf, Nat.reduceLeDiff, Nat.reduceLT, Nat.reduceMul, List.length_append, decide_eq_true_eq, z9, z6, Int.reduceToNat, Int.reduceLE, Int.reduceLT, Int.reduceBNe, Int.reduceBEq, eqBoolV]
         rfl
       · simp only [go_sem, Nat.reduceLT, Nat.reduceEqDiff]
         rfl
       · rfl
       first
       | (apply zd
          · simp only [z5, z0, Nat.reduceLT, decide_true, cond_true, ins]
            rfl
          · simp only [z5, z0, Nat.reduceLT, decide_true, cond_true, ins]
            rfl)
       | (apply zh
          · simp only [z5, z0, Nat.reduceLT, decide_true, cond_true, ins]
            rfl))
    | ((first | apply zb | apply zc)
       · rfl
       · simp only [z5, z0, Nat.reduceLT, decide_true, cond_true, ins]
         rfl)
    | (apply za
       · simp only [go_sem, Nat.reduceEqDiff])
    | (apply z7
       · simp only [go_sem, Nat.reduceEqDiff])
    | (apply zg
       · kernel_rfl
       · kernel_rfl)
    | (simp only [bW, if_true, Nat.reduceEqDiff, if_false])
  all_goals simp only [go_sem, Nat.reduceEqDiff, bP, Nat.reduceAdd, Nat.reduceLeDiff, List.length_map, Tryd.f113]
  all_goals (simp_all [eqW]; done)

def idxW (es : List Edge) (r : Reason) : Nat → List Edge → Int
  | _, [] => -1
  | i, e :: rest => if eqW e.why r then (i : Int) else idxW es r (i + 1) rest
theorem idxW_spec {es : List Edge} {r : Reason} : ∀ {rest : List Edge} {i : Nat}, es.drop i = rest → (rest.find? (fun e => eqW e.why r) = none → idxW es r i rest = -1) ∧ (∀ e, rest.find? (fun e => eqW e.why r) = some e → ∃ k : Nat, idxW es r i rest = k ∧ es[k]? = some e)
  | [], i, _ => ⟨fun _ => rfl, fun e h => by simp at h⟩
  | e :: rest, i, hd => by
    have hm : es[i]? = some e := by rw [← List.head?_drop, hd]; rfl
    obtain ⟨i1, i2⟩ := idxW_spec (es := es) (r := r) (rest := rest) (i := i + 1) (by rw [← List.drop_drop, hd]; rfl)
    simp only [idxW, List.find?_cons]
    cases h : eqW e.why r with
    | true =>
      refine ⟨fun h' => by simp at h', fun e' h' => ?_⟩
      simp at h'
      subst h'
      exact ⟨i, by simp, hm⟩
    | false =>
      simp only [Bool.false_eq_true, if_false]
      exact ⟨i1, fun e' h' => i2 e' h'⟩

theorem L112_2 {F : Exit → St → Option D} (es : List Edge) (r : Reason) (k : List Kt) (x : D) (hl : es.length ≤ 1000) (hk : ∀ (v : Int) st, get st.tmps 4 = I v → zB cfg (lim cfg) 112 F k .ret st = some (I v)) : ∀ (rest : List Edge) (i : Nat), es.drop i = rest → i ≤ es.length →
    (idxW es r i rest = -1 → zB cfg (lim cfg) 112 F k (.exit 0) ⟨19, [(9, B false), (0, .sl false (es.map zQ) 7 none), (1, .fn (.func 113) [] [.ptr (.agg [B r.join, I r.at_, B r.back])]), (7, I es.length), (8, I (es.length : Nat))], [], 0, 0⟩ = some x) →
    (idxW es r i rest ≠ -1 → x = I (idxW es r i rest)) →
    EvL cfg (lim cfg) 112 F lp112_2 k ⟨19, [(0, .sl false (es.map zQ) 7 none), (1, .fn (.func 113) [] [.ptr (.agg [B r.join, I r.at_, B r.back])]), (7, I es.length), (8, I (i : Nat))], [], 0, 0⟩ = some x := by
  intro rest
  induction rest with
  | nil =>
    intro i hd hi h h'
    have hi' : i = es.length := by
      have := List.drop_eq_nil_iff.1 hd
      omega
    subst hi'
    refine zk ?_
    try dsimp only [lp112_2, zz, zo, Tryd.f112]
    simp only [bW, if_true, Nat.reduceEqDiff, if_false]
    repeat' first
      | (intro hb; first | cases hb | skip)
      | ((first | apply z8 | apply ze)
         · rfl
         · simp (disch := assumption) only [go_sem, Nat.reduceEqDiff, Nat.reduceAdd, bP, zf, Nat.reduceLeDiff, Nat.reduceLT, Nat.reduceMul, List.length_append, decide_eq_true_eq, z9, z6, Int.reduceToNat, Int.reduceLE, Int.reduceLT, Int.reduceBNe, Int.reduceBEq, Int.lt_irrefl]
           rfl
         · simp only [go_sem, Nat.reduceLT, Nat.reduceEqDiff]
           rfl
         · rfl
         first
         | (apply zd
            · simp only [z5, z0, Nat.reduceLT, decide_true, cond_true, ins]
              rfl
            · simp only [z5, z0, Nat.reduceLT, decide_true, cond_true, ins]
              rfl)
         | (apply zh
            · simp only [z5, z0, Nat.reduceLT, decide_true, cond_true, ins]
              rfl))
      | ((first | apply zb | apply zc)
         · rfl
         · simp only [z5, z0, Nat.reduceLT, decide_true, cond_true, ins]
           rfl)
      | (apply za
         · simp only [go_sem, Nat.reduceEqDiff])
      | (apply z7
         · simp only [go_sem, Nat.reduceEqDiff])
      | (apply zg
         · kernel_rfl
         · kernel_rfl)
      | (simp only [bW, if_true, Nat.reduceEqDiff, if_false])
    exact h rfl
  | cons e rest ih =>
    intro i hd hi h h'
    have hlt : i < es.length := by
      rcases Nat.lt_or_ge i es.length with h | h
      · exact h
      · rw [List.drop_eq_nil_of_le h] at hd; cases hd
    have hm : es[i]? = some e := by rw [← List.head?_drop, hd]; rfl
    have hx : (es.map zQ)[i]? = some (.agg [I e.src, I e.dst, I e.q.n, I e.q.d, B e.why.join, I e.why.at_, B e.why.back]) := by rw [List.getElem?_map, hm]; rfl
    have hlt' : (i : Int) < (es.length : Int) := by omega
    have hw3 : IntKind.i64.wrap ((i : Int) + 1) = ((i + 1 : Nat) : Int) := by rw [wrap_i64 (by omega) (by omega)]; omega
    have h113 := t113 e r
    simp only [idxW] at h h'
    cases he : eqW e.why r with
    | true =>
      rw [he] at h113
      simp only [he, if_true] at h h'
      rw [h' (by omega)]
      clear h h'
      refine zk ?_
      try dsimp only [lp112_2, zz, zo, Tryd.f112]
      simp only [bW, if_true, Nat.reduceEqDiff, if_false]
      repeat' first
        | (intro hb; first | cases hb | skip)
        | ((first | apply z8 | apply ze)
           · rfl
           · simp (disch := assumption) only [go_sem, Nat.reduceEqDiff, Nat.reduceAdd, bP, zf, Nat.reduceLeDiff, Nat.reduceLT, Nat.reduceMul, List.length_append, decide_eq_true_eq, z9, z6, Int.reduceToNat, Int.reduceLE, Int.reduceLT, Int.reduceBNe, Int.reduceBEq, hx, hlt', hw3, h113]
             rfl
           · simp only [go_sem, Nat.reduceLT, Nat.reduceEqDiff]
             rfl
           · rfl
           first
           | (apply zd
              · simp only [z5, z0, Nat.reduceLT, decide_true, cond_true, ins]
                rfl
              · simp only [z5, z0, Nat.reduceLT, decide_true, cond_true, ins]
                rfl)
           | (apply zh
              · simp only [z5, z0, Nat.reduceLT, decide_true, cond_true, ins]
                rfl))
        | ((first | apply zb | apply zc)
           · rfl
           · simp only [z5, z0, Nat.reduceLT, decide_true, cond_true, ins]
             rfl)
        | (apply za
           · simp only [go_sem, Nat.reduceEqDiff])
        | (apply z7
           · simp only [go_sem, Nat.reduceEqDiff])
        | (apply zg
           · kernel_rfl
           · kernel_rfl)
        | (simp only [bW, if_true, Nat.reduceEqDiff, if_false])
      exact hk _ _ rfl
    | false =>
      rw [he] at h113
      simp only [he, Bool.false_eq_true, if_false] at h h'
      refine zk ?_
      try dsimp only [lp112_2, zz, zo, Tryd.f112]
      simp only [bW, if_true, Nat.reduceEqDiff, if_false]
      repeat' first
        | (intro hb; first | cases hb | skip)
        | ((first | apply z8 | apply ze)
           · rfl
           · simp (disch := assumption) only [go_sem, Nat.reduceEqDiff, Nat.reduceAdd, bP, zf, Nat.reduceLeDiff, Nat.reduceLT, Nat.reduceMul, List.length_append, decide_eq_true_eq, z9, z6, Int.reduceToNat, Int.reduceLE, Int.reduceLT, Int.reduceBNe, Int.reduceBEq, hx, hlt', hw3, h113]
             rfl
           · simp only [go_sem, Nat.reduceLT, Nat.reduceEqDiff]
             rfl
           · rfl
           first
           | (apply zd
              · simp only [z5, z0, Nat.reduceLT, decide_true, cond_true, ins]
                rfl
              · simp only [z5, z0, Nat.reduceLT, decide_true, cond_true, ins]
                rfl)
           | (apply zh
              · simp only [z5, z0, Nat.reduceLT, decide_true, cond_true, ins]
                rfl))
        | ((first | apply zb | apply zc)
           · rfl
           · simp only [z5, z0, Nat.reduceLT, decide_true, cond_true, ins]
             rfl)
        | (apply za
           · simp only [go_sem, Nat.reduceEqDiff])
        | (apply z7
           · simp only [go_sem, Nat.reduceEqDiff])
        | (apply zg
           · kernel_rfl
           · kernel_rfl)
        | (simp only [bW, if_true, Nat.reduceEqDiff, if_false])
      exact zu (st1 := ⟨19, [(0, .sl false (es.map zQ) 7 none), (1, .fn (.func 113) [] [.ptr (.agg [B r.join, I r.at_, B r.back])]), (7, I es.length), (8, I (i + 1 : Nat))], [], 0, 0⟩) lk112_2 (by kernel_rfl) (ih (i + 1) (by rw [← List.drop_drop, hd]; rfl) hlt h h')
theorem t112 (es : List Edge) (r : Reason) (hl : es.length ≤ 1000) : (lim cfg).pure 112 [.sl false (es.map zQ) 7 none, .fn (.func 113) [] [.ptr (.agg [B r.join, I r.at_, B r.back])]] = some (I (idxW es r 0 es)) := by
  refine zm (zj 112) cfn112 rfl (n := 19) rfl ?_
  generalize hF : finP cfg Tryd.f112 = F
  simp only [bW, if_true, Nat.reduceEqDiff, if_false, zl]
  have hret : ∀ (v : Int) st, get st.tmps 4 = I v → F .ret st = some (I v) := by
    intro v st h
    subst hF
    simp only [go_sem, Nat.reduceEqDiff, bP, Nat.reduceAdd, Nat.reduceLeDiff, List.length_map, Tryd.f112, h]
  repeat' first
    | (intro hb; first | cases hb | skip)
    | ((first | apply z8 | apply ze)
       · rfl
       · simp (disch := assumption) only [go_sem, Nat.reduceEqDiff, Nat.reduceAdd, bP, zf, Nat.reduceLeDiff, Nat.reduceLT, Nat.reduceMul, List.length_append, decide_eq_true_eq, z9, z6, Int.reduceToNat, Int.reduceLE, Int.reduceLT, Int.reduceBNe, Int.reduceBEq, List.length_map]
         rfl
       · simp only [go_sem, Nat.reduceLT, Nat.reduceEqDiff]
         rfl
       · rfl
       first
       | (apply zd
          · simp only [z5, z0, Nat.reduceLT, decide_true, cond_true, ins]
            rfl
          · simp only [z5, z0, Nat.reduceLT, decide_true, cond_true, ins]
            rfl)
       | (apply zh
          · simp only [z5, z0, Nat.reduceLT, decide_true, cond_true, ins]
            rfl))
    | ((first | apply zb | apply zc)
       · rfl
       · simp only [z5, z0, Nat.reduceLT, decide_true, cond_true, ins]
         rfl)
    | (apply za
       · simp only [go_sem, Nat.reduceEqDiff])
    | (apply z7
       · simp only [go_sem, Nat.reduceEqDiff])
    | (apply zg
       · kernel_rfl
       · kernel_rfl)
    | (simp only [bW, if_true, Nat.reduceEqDiff, if_false])
  refine zS (st1 := ⟨19, [(0, .sl false (es.map zQ) 7 none), (1, .fn (.func 113) [] [.ptr (.agg [B r.join, I r.at_, B r.back])]), (7, I es.length), (8, I (0 : Nat))], [], 0, 0⟩) lk112_2 (by kernel_rfl) (L112_2 es r _ _ hl (fun v st h => by simp only [bW, if_true, Nat.reduceEqDiff, if_false]; exact hret v st h) es 0 rfl (Nat.zero_le _) (fun h => ?_) (fun h => rfl))
  rw [h]
  simp only [bW, if_true, Nat.reduceEqDiff, if_false]
  repeat' first
    | (intro hb; first | cases hb | skip)
    | ((first | apply z8 | apply ze)
       · rfl
       · simp (disch := assumption) only [go_sem, Nat.reduceEqDiff, Nat.reduceAdd, bP, zf, Nat.reduceLeDiff, Nat.reduceLT, Nat.reduceMul, List.length_append, decide_eq_true_eq, z9, z6, Int.reduceToNat, Int.reduceLE, Int.reduceLT, Int.reduceBNe, Int.reduceBEq]
         rfl
       · simp only [go_sem, Nat.reduceLT, Nat.reduceEqDiff]
         rfl
       · rfl
       first
       | (apply zd
          · simp only [z5, z0, Nat.reduceLT, decide_true, cond_true, ins]
            rfl
          · simp only [z5, z0, Nat.reduceLT, decide_true, cond_true, ins]
            rfl)
       | (apply zh
          · simp only [z5, z0, Nat.reduceLT, decide_true, cond_true, ins]
            rfl))
    | ((first | apply zb | apply zc)
       · rfl
       · simp only [z5, z0, Nat.reduceLT, decide_true, cond_true, ins]
         rfl)
    | (apply za
       · simp only [go_sem, Nat.reduceEqDiff])
    | (apply z7
       · simp only [go_sem, Nat.reduceEqDiff])
    | (apply zg
       · kernel_rfl
       · kernel_rfl)
    | (simp only [bW, if_true, Nat.reduceEqDiff, if_false])
  subst hF
  all_goals simp only [go_sem, Nat.reduceEqDiff, bP, Nat.reduceAdd, Nat.reduceLeDiff, List.length_map, Tryd.f112]
theorem t92 (s a : Int) (q : Ratio) (h1 : 1 ≤ q.n) (h2 : q.n ≤ 32000000000000000) (h3 : 1 ≤ q.d) (h4 : q.d ≤ 32000000000000000) : (lim cfg).pure 92 [I s, I a, .agg [I q.n, I q.d]] = some (B ((s == a) && ltR q one1)) := by
  have h75 := t75 q.n q.d 1 1 ⟨by omega, by omega⟩ ⟨by omega, by omega⟩ ⟨by omega, by omega⟩ ⟨by omega, by omega⟩
  have hl := cmp_lt q one1
  unfold cmpR at hl
  simp only [one1] at hl
  cases hs : (s == a) with
  | false =>
    refine zm (zj 92) cfn92 rfl (n := 16) rfl ?_
    simp only [bW, if_true, Nat.reduceEqDiff, if_false, zl]
    repeat' first
      | (intro hb; first | cases hb | skip)
      | ((first | apply z8 | apply ze)
         · rfl
         · simp (disch := assumption) only [go_sem, Nat.reduceEqDiff, Nat.reduceAdd, bP, zf, Nat.reduceLeDiff, Nat.reduceLT, Nat.reduceMul, List.length_append, decide_eq_true_eq, z9, z6, Int.reduceToNat, Int.reduceLE, Int.reduceLT, Int.reduceBNe, Int.reduceBEq, cfg_glob0, h75, hs, hl, one1]
           rfl
         · simp only [go_sem, Nat.reduceLT, Nat.reduceEqDiff]
           rfl
         · rfl
         first
         | (apply zd
            · simp only [z5, z0, Nat.reduceLT, decide_true, cond_true, ins]
              rfl
            · simp only [z5, z0, Nat.reduceLT, decide_true, cond_true, ins]
              rfl)
         | (apply zh
            · simp only [z5, z0, Nat.reduceLT, decide_true, cond_true, ins]
              rfl))
      | ((first | apply zb | apply zc)
         · rfl
         · simp only [z5, z0, Nat.reduceLT, decide_true, cond_true, ins]
           rfl)
      | (apply za
         · simp only [go_sem, Nat.reduceEqDiff])
      | (apply z7
         · simp only [go_sem, Nat.reduceEqDiff])
      | (apply zg
         · kernel_rfl
         · kernel_rfl)
      | (simp only [bW, if_true, Nat.reduceEqDiff, if_false])
    all_goals try simp only [go_sem, Nat.reduceEqDiff, bP, Nat.reduceAdd, Nat.reduceLeDiff, List.length_map, Tryd.f92, one1]
    all_goals first | done | rfl | (simp_all []; done) | trace_state
  | true =>
    refine zm (zj 92) cfn92 rfl (n := 16) rfl ?_
    simp only [bW, if_true, Nat.reduceEqDiff, if_false, zl]
    repeat' first
      | (intro hb; first | cases hb | skip)
      | ((first | apply z8 | apply ze)
         · rfl
         · simp (disch := assumption) only [go_sem, Nat.reduceEqDiff, Nat.reduceAdd, bP, zf, Nat.reduceLeDiff, Nat.reduceLT, Nat.reduceMul, List.length_append, decide_eq_true_eq, z9, z6, Int.reduceToNat, Int.reduceLE, Int.reduceLT, Int.reduceBNe, Int.reduceBEq, cfg_glob0, h75, hs, hl, one1]
           rfl
         · simp only [go_sem, Nat.reduceLT, Nat.reduceEqDiff]
           rfl
         · rfl
         first
         | (apply zd
            · simp only [z5, z0, Nat.reduceLT, decide_true, cond_true, ins]
              rfl
            · simp only [z5, z0, Nat.reduceLT, decide_true, cond_true, ins]
              rfl)
         | (apply zh
            · simp only [z5, z0, Nat.reduceLT, decide_true, cond_true, ins]
              rfl))
      | ((first | apply zb | apply zc)
         · rfl
         · simp only [z5, z0, Nat.reduceLT, decide_true, cond_true, ins]
           rfl)
      | (apply za
         · simp only [go_sem, Nat.reduceEqDiff])
      | (apply z7
         · simp only [go_sem, Nat.reduceEqDiff])
      | (apply zg
         · kernel_rfl
         · kernel_rfl)
      | (simp only [bW, if_true, Nat.reduceEqDiff, if_false])
    all_goals try simp only [go_sem, Nat.reduceEqDiff, bP, Nat.reduceAdd, Nat.reduceLeDiff, List.length_map, Tryd.f92, one1]
    all_goals first | done | rfl | (simp_all []; done) | trace_state

/-- Is a ratio at most another one? -/
def leR (a b : Ratio) : Bool := decide (a.n * b.d ≤ b.n * a.d)
theorem cmp_le (a b : Ratio) : decide (cmpI (a.n * b.d) (b.n * a.d) ≤ 0) = leR a b := by
  unfold cmpI leR
  rw [decide_eq_decide]
  split
  · simp; omega
  · split <;> simp <;> omega
def proves (g : Bool) (sh : Int) (bd : Ratio) (s a : Int) (q : Ratio) : Bool := if g then (s == 1 + sh) && ((a == 0) && leR q bd) else (s == 0) && ((a == 1 + sh) && leR q ⟨bd.d, bd.n⟩)
theorem t96 (g : Bool) (sh : Int) (bd : Ratio) (s a : Int) (q : Ratio) (h1 : 1 ≤ q.n) (h2 : q.n ≤ 32000000000000000) (h3 : 1 ≤ q.d) (h4 : q.d ≤ 32000000000000000) (hb : ratioOK bd = true) (hs1 : 0 ≤ sh) (hs2 : sh ≤ 4) : (lim cfg).pure 96 [I s, I a, .agg [I q.n, I q.d], .ptr (B g), .ptr (I sh), .ptr (.agg [I bd.n, I bd.d])] = some (B (proves g sh bd s a q)) := by
  obtain ⟨r1, r2⟩ := ratio_p63 hb
  have h75 := t75 q.n q.d bd.n bd.d ⟨by omega, by omega⟩ ⟨by omega, by omega⟩ r1 r2
  have h75' := t75 q.n q.d bd.d bd.n ⟨by omega, by omega⟩ ⟨by omega, by omega⟩ r2 r1
  have hl := cmp_le q bd
  have hl' := cmp_le q ⟨bd.d, bd.n⟩
  simp only [] at hl'
  have hw : IntKind.i64.wrap (1 + sh) = 1 + sh := wrap_i64 (by omega) (by omega)
  unfold proves
  cases g with
  | true =>
    simp only [if_true]
    cases e1 : (s == 1 + sh) <;> cases e2 : (a == 0)
    all_goals
      refine zm (zj 96) cfn96 rfl (n := 40) rfl ?_
      simp only [bW, if_true, Nat.reduceEqDiff, if_false, zl]
      repeat' first
        | (intro hb; first | cases hb | skip)
        | ((first | apply z8 | apply ze)
           · rfl
           · simp (disch := assumption) only [go_sem, Nat.reduceEqDiff, Nat.reduceAdd, bP, zf, Nat.reduceLeDiff, Nat.reduceLT, Nat.reduceMul, List.length_append, decide_eq_true_eq, z9, z6, Int.reduceToNat, Int.reduceLE, Int.reduceLT, Int.reduceBNe, Int.reduceBEq, h75, hl, hw, e1, e2]
             rfl
           · simp only [go_sem, Nat.reduceLT, Nat.reduceEqDiff]
             rfl
           · rfl
           first
           | (apply zd
              · simp only [z5, z0, Nat.reduceLT, decide_true, cond_true, ins]
                rfl
              · simp only [z5, z0, Nat.reduceLT, decide_true, cond_true, ins]
                rfl)
           | (apply zh
              · simp only [z5, z0, Nat.reduceLT, decide_true, cond_true, ins]
                rfl))
        | ((first | apply zb | apply zc)
           · rfl
           · simp only [z5, z0, Nat.reduceLT, decide_true, cond_true, ins]
             rfl)
        | (apply za
           · simp only [go_sem, Nat.reduceEqDiff])
        | (apply z7
           · simp only [go_sem, Nat.reduceEqDiff])
        | (apply zg
           · kernel_rfl
           · kernel_rfl)
        | (simp only [bW, if_true, Nat.reduceEqDiff, if_false])
      all_goals try simp only [go_sem, Nat.reduceEqDiff, bP, Nat.reduceAdd, Nat.reduceLeDiff, List.length_map, Tryd.f96]
      all_goals first | done | rfl | (simp_all []; done) | trace_state
  | false =>
    simp only [Bool.false_eq_true, if_false]
    cases e1 : (s == 0) <;> cases e2 : (a == 1 + sh)
    all_goals
      refine zm (zj 96) cfn96 rfl (n := 40) rfl ?_
      simp only [bW, if_true, Nat.reduceEqDiff, if_false, zl]
      repeat' first
        | (intro hb; first | cases hb | skip)
        | ((first | apply z8 | apply ze)
           · rfl
           · simp (disch := assumption) only [go_sem, Nat.reduceEqDiff, Nat.reduceAdd, bP, zf, Nat.reduceLeDiff, Nat.reduceLT, Nat.reduceMul, List.length_append, decide_eq_true_eq, z9, z6, Int.reduceToNat, Int.reduceLE, Int.reduceLT, Int.reduceBNe, Int.reduceBEq, h75', hl', hw, t97, e1, e2]
             rfl
           · simp only [go_sem, Nat.reduceLT, Nat.reduceEqDiff]
             rfl
           · rfl
           first
           | (apply zd
              · simp only [z5, z0, Nat.reduceLT, decide_true, cond_true, ins]
                rfl
              · simp only [z5, z0, Nat.reduceLT, decide_true, cond_true, ins]
                rfl)
           | (apply zh
              · simp only [z5, z0, Nat.reduceLT, decide_true, cond_true, ins]
                rfl))
        | ((first | apply zb | apply zc)
           · rfl
           · simp only [z5, z0, Nat.reduceLT, decide_true, cond_true, ins]
             rfl)
        | (apply za
           · simp only [go_sem, Nat.reduceEqDiff])
        | (apply z7
           · simp only [go_sem, Nat.reduceEqDiff])
        | (apply zg
           · kernel_rfl
           · kernel_rfl)
        | (simp only [bW, if_true, Nat.reduceEqDiff, if_false])
      all_goals try simp only [go_sem, Nat.reduceEqDiff, bP, Nat.reduceAdd, Nat.reduceLeDiff, List.length_map, Tryd.f96]
      all_goals first | done | rfl | (simp_all []; done) | trace_state

theorem L93_6_92 {F : Exit → St → Option D}  (es : List Edge) (l : List Reason) (nl : Bool) (sz : Nat) (k : List Kt) (x : D) (hes : ∀ e ∈ es, edgeB e) (hlen : es.length ≤ 1000) (hnl : nl = true → l = []) (hsz : nl = false → sz = 3) (hl5 : l.length ≤ 5) (hk : ∀ st, get st.tmps 8 = B false → zB cfg (lim cfg) 93 F k .ret st = some (B false)) : ∀ (rest : List Reason) (i : Nat) (c : Chn) (s a : Int), l.drop i = rest → i ≤ l.length → qB (2000 ^ i) i c →
    (∀ (c' : Chn) (s' a' : Int), goG es lowM rest (decide (i = 0)) c.q s a = some (s', a', c'.q) → zB cfg (lim cfg) 93 F k (.exit 0) ⟨79, [(32, B false), (3, .fn (.func 92) [] []), (9, .sl false (es.map zQ) 7 none), (10, .lref 0 0 3 0), (11, I (s')), (12, I (a')), (29, .sl nl (l.map encW) sz none), (30, I l.length), (31, I (l.length : Nat))], [(0, ⟨[.agg [I (c').q.n, I (c').q.d, whyD (c').why]], 3, false⟩)], 1, 0⟩ = some x) →
    (goG es lowM rest (decide (i = 0)) c.q s a = none → x = B false) →
    EvL cfg (lim cfg) 93 F lp93_6 k ⟨79, [(3, .fn (.func 92) [] []), (9, .sl false (es.map zQ) 7 none), (10, .lref 0 0 3 0), (11, I (s)), (12, I (a)), (29, .sl nl (l.map encW) sz none), (30, I l.length), (31, I (i : Nat))], [(0, ⟨[.agg [I (c).q.n, I (c).q.d, whyD (c).why]], 3, false⟩)], 1, 0⟩ = some x := by
  intro rest
  induction rest with
  | nil =>
    intro i c s a hd hi hq h h0
    have hi' : i = l.length := by
      have := List.drop_eq_nil_iff.1 hd
      omega
    subst hi'
    have h := h c s a rfl
    clear h0
    refine zk ?_
    try dsimp only [lp93_6, zz, zo, Tryd.f93]
    simp only [bW, if_true, Nat.reduceEqDiff, if_false]
    repeat' first
      | (intro hb; first | cases hb | skip)
      | ((first | apply z8 | apply ze)
         · rfl
         · simp (disch := assumption) only [go_sem, Nat.reduceEqDiff, Nat.reduceAdd, bP, zf, Nat.reduceLeDiff, Nat.reduceLT, Nat.reduceMul, List.length_append, decide_eq_true_eq, z9, z6, Int.reduceToNat, Int.reduceLE, Int.reduceLT, Int.reduceBNe, Int.reduceBEq, Int.lt_irrefl]
           rfl
         · simp only [go_sem, Nat.reduceLT, Nat.reduceEqDiff]
           rfl
         · rfl
         first
         | (apply zd
            · simp only [z5, z0, Nat.reduceLT, decide_true, cond_true, ins]
              rfl
            · simp only [z5, z0, Nat.reduceLT, decide_true, cond_true, ins]
              rfl)
         | (apply zh
            · simp only [z5, z0, Nat.reduceLT, decide_true, cond_true, ins]
              rfl))
      | ((first | apply zb | apply zc)
         · rfl
         · simp only [z5, z0, Nat.reduceLT, decide_true, cond_true, ins]
           rfl)
      | (apply za
         · simp only [go_sem, Nat.reduceEqDiff])
      | (apply z7
         · simp only [go_sem, Nat.reduceEqDiff])
      | (apply zg
         · kernel_rfl
         · kernel_rfl)
      | (simp only [bW, if_true, Nat.reduceEqDiff, if_false])
    exact h
  | cons r rest ih =>
    intro i c s a hd hi hq h h0
    have hlt : i < l.length := by
      rcases Nat.lt_or_ge i l.length with h | h
      · exact h
      · rw [List.drop_eq_nil_of_le h] at hd; cases hd
    have hm : l[i]? = some r := by rw [← List.head?_drop, hd]; rfl
    have hx : (l.map encW)[i]? = some (.agg [B r.join, I r.at_, B r.back]) := by rw [List.getElem?_map, hm]; rfl
    have hnl' : nl = false := by
      cases h : nl with
      | false => rfl
      | true => rw [hnl h] at hlt; cases hlt
    have hs1 := hsz hnl'
    clear hsz
    subst hs1
    subst hnl'
    have hlt' : (i : Int) < (l.length : Int) := by omega
    have hw3 : IntKind.i64.wrap ((i : Int) + 1) = ((i + 1 : Nat) : Int) := by rw [wrap_i64 (by omega) (by omega)]; omega
    have h112 := t112 es r hlen
    obtain ⟨j1, j2⟩ := idxW_spec (es := es) (r := r) (rest := es) (i := 0) rfl
    simp only [goG] at h h0
    cases hf : findW es r with
    | none =>
      rw [j1 hf] at h112
      rw [hf] at h0
      rw [h0 rfl]
      clear h h0 ih
      refine zk ?_
      try dsimp only [lp93_6, zz, zo, Tryd.f93]
      simp only [bW, if_true, Nat.reduceEqDiff, if_false]
      repeat' first
        | (intro hb; first | cases hb | skip)
        | ((first | apply z8 | apply ze)
           · rfl
           · simp (disch := assumption) only [go_sem, Nat.reduceEqDiff, Nat.reduceAdd, bP, zf, Nat.reduceLeDiff, Nat.reduceLT, Nat.reduceMul, List.length_append, decide_eq_true_eq, z9, z6, Int.reduceToNat, Int.reduceLE, Int.reduceLT, Int.reduceBNe, Int.reduceBEq, hx, hlt', hw3, h112, whyD_one, pd_why, zG, ids_fn]
             rfl
           · simp only [go_sem, Nat.reduceLT, Nat.reduceEqDiff]
             rfl
           · rfl
           first
           | (apply zd
              · simp only [z5, z0, Nat.reduceLT, decide_true, cond_true, ins]
                rfl
              · simp only [z5, z0, Nat.reduceLT, decide_true, cond_true, ins]
                rfl)
           | (apply zh
              · simp only [z5, z0, Nat.reduceLT, decide_true, cond_true, ins]
                rfl))
        | ((first | apply zb | apply zc)
           · rfl
           · simp only [z5, z0, Nat.reduceLT, decide_true, cond_true, ins]
             rfl)
        | (apply za
           · simp only [go_sem, Nat.reduceEqDiff])
        | (apply z7
           · simp only [go_sem, Nat.reduceEqDiff])
        | (apply zg
           · kernel_rfl
           · kernel_rfl)
        | (simp only [bW, if_true, Nat.reduceEqDiff, if_false])
      exact hk _ rfl
    | some e =>
      obtain ⟨n, j3, j4⟩ := j2 e hf
      rw [j3] at h112
      rw [hf] at h h0
      simp only [] at h h0
      have hxe : (es.map zQ)[n]? = some (.agg [I e.src, I e.dst, I e.q.n, I e.q.d, B e.why.join, I e.why.at_, B e.why.back]) := by rw [List.getElem?_map, j4]; rfl
      have heb := hes e (List.mem_of_getElem? j4)
      have hp1 : (1 : Int) ≤ 2000 ^ i := Int.pow_pos (by omega)
      have hp2 : (2000 : Int) ^ i * 2000 ≤ 32000000000000000 := by
        have : i = 0 ∨ i = 1 ∨ i = 2 ∨ i = 3 ∨ i = 4 := by omega
        rcases this with h | h | h | h | h <;> rw [h] <;> decide
      have h107 := t107' hq heb (by omega) hp1 (by omega)
      have hq' := with_qB hq heb hp1
      rw [← Int.pow_succ] at hq'
      have hn0 : decide ((n : Int) < 0) = false := by simp
      have hz1 : decide (i + 1 = 0) = false := by simp
      rw [← hz1] at h h0
      by_cases hi0 : i = 0
      · have hd0 : decide (i = 0) = true := by simp [hi0]
        have c1 : decide ((i : Int) > 0) = false := by simp; omega
        have c2 : ((i : Int) == 0) = true := by simp [hi0]
        rw [if_neg (by rw [hz1, hd0]; simp), if_pos hd0] at h h0
        have h : ∀ (c' : Chn) (s' a' : Int), goG es lowM rest (decide (i + 1 = 0)) (withC c e).q e.src e.dst = some (s', a', c'.q) → _ := h
        have h0 : goG es lowM rest (decide (i + 1 = 0)) (withC c e).q e.src e.dst = none → _ := h0
        refine zk ?_
        try dsimp only [lp93_6, zz, zo, Tryd.f93]
        simp only [bW, if_true, Nat.reduceEqDiff, if_false]
        repeat' first
          | (intro hb; first | cases hb | skip)
          | ((first | apply z8 | apply ze)
             · rfl
             · simp (disch := assumption) only [go_sem, Nat.reduceEqDiff, Nat.reduceAdd, bP, zf, Nat.reduceLeDiff, Nat.reduceLT, Nat.reduceMul, List.length_append, decide_eq_true_eq, z9, z6, Int.reduceToNat, Int.reduceLE, Int.reduceLT, Int.reduceBNe, Int.reduceBEq, hx, hlt', hw3, h112, whyD_one, pd_why, zG, ids_fn, hxe, h107, hn0, c1, c2]
               rfl
             · simp only [go_sem, Nat.reduceLT, Nat.reduceEqDiff]
               rfl
             · rfl
             first
             | (apply zd
                · simp only [z5, z0, Nat.reduceLT, decide_true, cond_true, ins]
                  rfl
                · simp only [z5, z0, Nat.reduceLT, decide_true, cond_true, ins]
                  rfl)
             | (apply zh
                · simp only [z5, z0, Nat.reduceLT, decide_true, cond_true, ins]
                  rfl))
          | ((first | apply zb | apply zc)
             · rfl
             · simp only [z5, z0, Nat.reduceLT, decide_true, cond_true, ins]
               rfl)
          | (apply za
             · simp only [go_sem, Nat.reduceEqDiff])
          | (apply z7
             · simp only [go_sem, Nat.reduceEqDiff])
          | (apply zg
             · kernel_rfl
             · kernel_rfl)
          | (simp only [bW, if_true, Nat.reduceEqDiff, if_false])
        refine zu (st1 := ⟨79, [(3, .fn (.func 92) [] []), (9, .sl false (es.map zQ) 7 none), (10, .lref 0 0 3 0), (11, I (e.src)), (12, I (e.dst)), (29, .sl false (l.map encW) 3 none), (30, I l.length), (31, I (i + 1 : Nat))], [(0, ⟨[.agg [I (withC c e).q.n, I (withC c e).q.d, whyD (withC c e).why]], 3, false⟩)], 1, 0⟩) lk93_6 (by
          simp only [go_sem, List.map_append, Nat.reduceEqDiff, Nat.reduceLT, Nat.reduceAdd, bI, bD, bI2, deep_net, deepI_net, ids_net, ren_net, deep_why, deepI_why, ids_why, ren_why, take_enc, drop_enc, catI_append, idsL_append, sn_lref, sn_agg, sn_val, zG, List.append_assoc]
          try rfl) (ih (i + 1) (withC c e) (e.src) (e.dst) (by rw [← List.drop_drop, hd]; rfl) hlt hq' h h0)
      · have hd0 : decide (i = 0) = false := by simp [hi0]
        have c1 : decide ((i : Int) > 0) = true := by simp; omega
        have c2 : ((i : Int) == 0) = false := by simp [hi0]
        by_cases ha : e.src = a
        · have c3 : (e.src != a) = false := by simp [ha]
          rw [if_neg (fun h => h.2 ha), if_neg (by rw [hd0]; simp)] at h h0
          have h : ∀ (c' : Chn) (s' a' : Int), goG es lowM rest (decide (i + 1 = 0)) (withC c e).q s e.dst = some (s', a', c'.q) → _ := h
          have h0 : goG es lowM rest (decide (i + 1 = 0)) (withC c e).q s e.dst = none → _ := h0
          refine zk ?_
          try dsimp only [lp93_6, zz, zo, Tryd.f93]
          simp only [bW, if_true, Nat.reduceEqDiff, if_false]
          repeat' first
            | (intro hb; first | cases hb | skip)
            | ((first | apply z8 | apply ze)
               · rfl
               · simp (disch := assumption) only [go_sem, Nat.reduceEqDiff, Nat.reduceAdd, bP, zf, Nat.reduceLeDiff, Nat.reduceLT, Nat.reduceMul, List.length_append, decide_eq_true_eq, z9, z6, Int.reduceToNat, Int.reduceLE, Int.reduceLT, Int.reduceBNe, Int.reduceBEq, hx, hlt', hw3, h112, whyD_one, pd_why, zG, ids_fn, hxe, h107, hn0, c1, c2, c3]
                 rfl
               · simp only [go_sem, Nat.reduceLT, Nat.reduceEqDiff]
                 rfl
               · rfl
               first
               | (apply zd
                  · simp only [z5, z0, Nat.reduceLT, decide_true, cond_true, ins]
                    rfl
                  · simp only [z5, z0, Nat.reduceLT, decide_true, cond_true, ins]
                    rfl)
               | (apply zh
                  · simp only [z5, z0, Nat.reduceLT, decide_true, cond_true, ins]
                    rfl))
            | ((first | apply zb | apply zc)
               · rfl
               · simp only [z5, z0, Nat.reduceLT, decide_true, cond_true, ins]
                 rfl)
            | (apply za
               · simp only [go_sem, Nat.reduceEqDiff])
            | (apply z7
               · simp only [go_sem, Nat.reduceEqDiff])
            | (apply zg
               · kernel_rfl
               · kernel_rfl)
            | (simp only [bW, if_true, Nat.reduceEqDiff, if_false])
          refine zu (st1 := ⟨79, [(3, .fn (.func 92) [] []), (9, .sl false (es.map zQ) 7 none), (10, .lref 0 0 3 0), (11, I (s)), (12, I (e.dst)), (29, .sl false (l.map encW) 3 none), (30, I l.length), (31, I (i + 1 : Nat))], [(0, ⟨[.agg [I (withC c e).q.n, I (withC c e).q.d, whyD (withC c e).why]], 3, false⟩)], 1, 0⟩) lk93_6 (by
            simp only [go_sem, List.map_append, Nat.reduceEqDiff, Nat.reduceLT, Nat.reduceAdd, bI, bD, bI2, deep_net, deepI_net, ids_net, ren_net, deep_why, deepI_why, ids_why, ren_why, take_enc, drop_enc, catI_append, idsL_append, sn_lref, sn_agg, sn_val, zG, List.append_assoc]
            try rfl) (ih (i + 1) (withC c e) (s) (e.dst) (by rw [← List.drop_drop, hd]; rfl) hlt hq' h h0)
        · have c3 : (e.src != a) = true := by simp [ha]
          rw [if_pos ⟨by rw [hz1, hd0], ha⟩] at h0
          rw [h0 rfl]
          clear h h0 ih
          refine zk ?_
          try dsimp only [lp93_6, zz, zo, Tryd.f93]
          simp only [bW, if_true, Nat.reduceEqDiff, if_false]
          repeat' first
            | (intro hb; first | cases hb | skip)
            | ((first | apply z8 | apply ze)
               · rfl
               · simp (disch := assumption) only [go_sem, Nat.reduceEqDiff, Nat.reduceAdd, bP, zf, Nat.reduceLeDiff, Nat.reduceLT, Nat.reduceMul, List.length_append, decide_eq_true_eq, z9, z6, Int.reduceToNat, Int.reduceLE, Int.reduceLT, Int.reduceBNe, Int.reduceBEq, hx, hlt', hw3, h112, whyD_one, pd_why, zG, ids_fn, hxe, h107, hn0, c1, c2, c3]
                 rfl
               · simp only [go_sem, Nat.reduceLT, Nat.reduceEqDiff]
                 rfl
               · rfl
               first
               | (apply zd
                  · simp only [z5, z0, Nat.reduceLT, decide_true, cond_true, ins]
                    rfl
                  · simp only [z5, z0, Nat.reduceLT, decide_true, cond_true, ins]
                    rfl)
               | (apply zh
                  · simp only [z5, z0, Nat.reduceLT, decide_true, cond_true, ins]
                    rfl))
            | ((first | apply zb | apply zc)
               · rfl
               · simp only [z5, z0, Nat.reduceLT, decide_true, cond_true, ins]
                 rfl)
            | (apply za
               · simp only [go_sem, Nat.reduceEqDiff])
            | (apply z7
               · simp only [go_sem, Nat.reduceEqDiff])
            | (apply zg
               · kernel_rfl
               · kernel_rfl)
            | (simp only [bW, if_true, Nat.reduceEqDiff, if_false])
          exact hk _ rfl
def ans92  (o : Option (Int × Int × Ratio)) : Bool := match o with | none => false | some (s, a, q) => (s == a) && ltR q one1
theorem t93_92  (p : Paper) (ax : Int) (l : List Reason) (nl : Bool) (sz : Nat) (hwf : p.wf) (hok : zn p = true) (hnl : nl = true → l = []) (hsz : nl = false → sz = 3) (hll : l.length ≤ 9223372036854775807) : (lim cfg).pure 93 [zt p, I ax, .sl nl (l.map encW) sz none, .fn (.func 92) [] []] = some (B (ans92 (followO p ax l))) := by
  have h68 := t68 p ax hwf hok
  obtain ⟨hes, hlen⟩ := edgesB hok ax
  have hlw := len_if (f := encW) hnl
  by_cases hl : 1 ≤ l.length ∧ l.length ≤ 5
  · have c1 : decide ((l.length : Int) < 1) = false := by simp; omega
    have c2 : decide ((l.length : Int) > 5) = false := by simp; omega
    have hfo : followO p ax l = goG (zA p ax) lowM l true one1 0 0 := by unfold followO; rw [if_pos hl]
    have hinv := fun s a q => follow_inv (s := s) (a := a) (q := q) hok (ax := ax) (l := l)
    rw [hfo] at hinv ⊢
    generalize zA p ax = es at *
    refine zm (zj 93) cfn93 rfl (n := 79) rfl ?_
    generalize hF : finP cfg Tryd.f93 = F
    simp only [bW, if_true, Nat.reduceEqDiff, if_false, zl]
    have hret : ∀ (v : Bool) st, get st.tmps 8 = B v → F .ret st = some (B v) := by
      intro v st h
      subst hF
      simp only [go_sem, Nat.reduceEqDiff, bP, Nat.reduceAdd, Nat.reduceLeDiff, List.length_map, Tryd.f93, h]
    repeat' first
      | (intro hb; first | cases hb | skip)
      | ((first | apply z8 | apply ze)
         · rfl
         · simp (disch := assumption) only [go_sem, Nat.reduceEqDiff, Nat.reduceAdd, bP, zf, Nat.reduceLeDiff, Nat.reduceLT, Nat.reduceMul, List.length_append, decide_eq_true_eq, z9, z6, Int.reduceToNat, Int.reduceLE, Int.reduceLT, Int.reduceBNe, Int.reduceBEq, hlw, c1, c2, h68, cfg_glob0]
           rfl
         · simp only [go_sem, Nat.reduceLT, Nat.reduceEqDiff]
           rfl
         · rfl
         first
         | (apply zd
            · simp only [z5, z0, Nat.reduceLT, decide_true, cond_true, ins]
              rfl
            · simp only [z5, z0, Nat.reduceLT, decide_true, cond_true, ins]
              rfl)
         | (apply zh
            · simp only [z5, z0, Nat.reduceLT, decide_true, cond_true, ins]
              rfl))
      | ((first | apply zb | apply zc)
         · rfl
         · simp only [z5, z0, Nat.reduceLT, decide_true, cond_true, ins]
           rfl)
      | (apply za
         · simp only [go_sem, Nat.reduceEqDiff])
      | (apply z7
         · simp only [go_sem, Nat.reduceEqDiff])
      | (apply zg
         · kernel_rfl
         · kernel_rfl)
      | (simp only [bW, if_true, Nat.reduceEqDiff, if_false])
    refine zS (st1 := ⟨79, [(3, .fn (.func 92) [] []), (9, .sl false (es.map zQ) 7 none), (10, .lref 0 0 3 0), (11, I (0)), (12, I (0)), (29, .sl nl (l.map encW) sz none), (30, I l.length), (31, I (0 : Nat))], [(0, ⟨[.agg [I ((⟨one1, []⟩ : Chn)).q.n, I ((⟨one1, []⟩ : Chn)).q.d, whyD ((⟨one1, []⟩ : Chn)).why]], 3, false⟩)], 1, 0⟩) lk93_6 (by
      simp only [go_sem, List.map_append, Nat.reduceEqDiff, Nat.reduceLT, Nat.reduceAdd, bI, bD, bI2]
      try rfl) (L93_6_92 es l nl sz _ _ hes hlen hnl hsz hl.2 (fun st h => by simp only [bW, if_true, Nat.reduceEqDiff, if_false]; exact hret false st h) l 0 ⟨one1, []⟩ 0 0 rfl (Nat.zero_le _) ⟨by decide, by decide, by decide, by decide, Nat.le_refl _⟩ (fun c s a h => ?_) (fun h => by
        have h : goG es lowM l true one1 0 0 = none := h
        rw [h]; rfl))
    have h : goG es lowM l true one1 0 0 = some (s, a, c.q) := h
    rw [h]
    obtain ⟨r1, r2, r3, r4, r5⟩ := hinv _ _ _ h
    have hask := t92 s a c.q r1.1 r4 r1.2.1 r5
    simp only [bW, if_true, Nat.reduceEqDiff, if_false]
    repeat' first
      | (intro hb; first | cases hb | skip)
      | ((first | apply z8 | apply ze)
         · rfl
         · simp (disch := assumption) only [go_sem, Nat.reduceEqDiff, Nat.reduceAdd, bP, zf, Nat.reduceLeDiff, Nat.reduceLT, Nat.reduceMul, List.length_append, decide_eq_true_eq, z9, z6, Int.reduceToNat, Int.reduceLE, Int.reduceLT, Int.reduceBNe, Int.reduceBEq, hask, whyD_one, pd_why]
           rfl
         · simp only [go_sem, Nat.reduceLT, Nat.reduceEqDiff]
           rfl
         · rfl
         first
         | (apply zd
            · simp only [z5, z0, Nat.reduceLT, decide_true, cond_true, ins]
              rfl
            · simp only [z5, z0, Nat.reduceLT, decide_true, cond_true, ins]
              rfl)
         | (apply zh
            · simp only [z5, z0, Nat.reduceLT, decide_true, cond_true, ins]
              rfl))
      | ((first | apply zb | apply zc)
         · rfl
         · simp only [z5, z0, Nat.reduceLT, decide_true, cond_true, ins]
           rfl)
      | (apply za
         · simp only [go_sem, Nat.reduceEqDiff])
      | (apply z7
         · simp only [go_sem, Nat.reduceEqDiff])
      | (apply zg
         · kernel_rfl
         · kernel_rfl)
      | (simp only [bW, if_true, Nat.reduceEqDiff, if_false])
    all_goals (subst hF; simp only [go_sem, Nat.reduceEqDiff, bP, Nat.reduceAdd, Nat.reduceLeDiff, List.length_map, Tryd.f93, ans92])
    all_goals first | done | simp_all
  · have hfo : followO p ax l = none := by unfold followO; rw [if_neg hl]
    rw [hfo]
    by_cases h1 : l.length < 1
    · have c1 : decide ((l.length : Int) < 1) = true := by simp; omega
      refine zm (zj 93) cfn93 rfl (n := 79) rfl ?_
      simp only [bW, if_true, Nat.reduceEqDiff, if_false, zl]
      repeat' first
        | (intro hb; first | cases hb | skip)
        | ((first | apply z8 | apply ze)
           · rfl
           · simp (disch := assumption) only [go_sem, Nat.reduceEqDiff, Nat.reduceAdd, bP, zf, Nat.reduceLeDiff, Nat.reduceLT, Nat.reduceMul, List.length_append, decide_eq_true_eq, z9, z6, Int.reduceToNat, Int.reduceLE, Int.reduceLT, Int.reduceBNe, Int.reduceBEq, hlw, c1]
             rfl
           · simp only [go_sem, Nat.reduceLT, Nat.reduceEqDiff]
             rfl
           · rfl
           first
           | (apply zd
              · simp only [z5, z0, Nat.reduceLT, decide_true, cond_true, ins]
                rfl
              · simp only [z5, z0, Nat.reduceLT, decide_true, cond_true, ins]
                rfl)
           | (apply zh
              · simp only [z5, z0, Nat.reduceLT, decide_true, cond_true, ins]
                rfl))
        | ((first | apply zb | apply zc)
           · rfl
           · simp only [z5, z0, Nat.reduceLT, decide_true, cond_true, ins]
             rfl)
        | (apply za
           · simp only [go_sem, Nat.reduceEqDiff])
        | (apply z7
           · simp only [go_sem, Nat.reduceEqDiff])
        | (apply zg
           · kernel_rfl
           · kernel_rfl)
        | (simp only [bW, if_true, Nat.reduceEqDiff, if_false])
      all_goals try simp only [go_sem, Nat.reduceEqDiff, bP, Nat.reduceAdd, Nat.reduceLeDiff, List.length_map, Tryd.f93, ans92]
      all_goals first | done | rfl | (simp_all []; done) | trace_state
    · have c1 : decide ((l.length : Int) < 1) = false := by simp; omega
      have c2 : decide ((l.length : Int) > 5) = true := by simp; omega
      refine zm (zj 93) cfn93 rfl (n := 79) rfl ?_
      simp only [bW, if_true, Nat.reduceEqDiff, if_false, zl]
      repeat' first
        | (intro hb; first | cases hb | skip)
        | ((first | apply z8 | apply ze)
           · rfl
           · simp (disch := assumption) only [go_sem, Nat.reduceEqDiff, Nat.reduceAdd, bP, zf, Nat.reduceLeDiff, Nat.reduceLT, Nat.reduceMul, List.length_append, decide_eq_true_eq, z9, z6, Int.reduceToNat, Int.reduceLE, Int.reduceLT, Int.reduceBNe, Int.reduceBEq, hlw, c1, c2]
             rfl
           · simp only [go_sem, Nat.reduceLT, Nat.reduceEqDiff]
             rfl
           · rfl
           first
           | (apply zd
              · simp only [z5, z0, Nat.reduceLT, decide_true, cond_true, ins]
                rfl
              · simp only [z5, z0, Nat.reduceLT, decide_true, cond_true, ins]
                rfl)
           | (apply zh
              · simp only [z5, z0, Nat.reduceLT, decide_true, cond_true, ins]
                rfl))
        | ((first | apply zb | apply zc)
           · rfl
           · simp only [z5, z0, Nat.reduceLT, decide_true, cond_true, ins]
             rfl)
        | (apply za
           · simp only [go_sem, Nat.reduceEqDiff])
        | (apply z7
           · simp only [go_sem, Nat.reduceEqDiff])
        | (apply zg
           · kernel_rfl
           · kernel_rfl)
        | (simp only [bW, if_true, Nat.reduceEqDiff, if_false])
      all_goals try simp only [go_sem, Nat.reduceEqDiff, bP, Nat.reduceAdd, Nat.reduceLeDiff, List.length_map, Tryd.f93, ans92]
      all_goals first | done | rfl | (simp_all []; done) | trace_state

theorem L93_6_96 {F : Exit → St → Option D} (g : Bool) (sh : Int) (bd : Ratio) (es : List Edge) (l : List Reason) (nl : Bool) (sz : Nat) (k : List Kt) (x : D) (hes : ∀ e ∈ es, edgeB e) (hlen : es.length ≤ 1000) (hnl : nl = true → l = []) (hsz : nl = false → sz = 3) (hl5 : l.length ≤ 5) (hk : ∀ st, get st.tmps 8 = B false → zB cfg (lim cfg) 93 F k .ret st = some (B false)) : ∀ (rest : List Reason) (i : Nat) (c : Chn) (s a : Int), l.drop i = rest → i ≤ l.length → qB (2000 ^ i) i c →
    (∀ (c' : Chn) (s' a' : Int), goG es lowM rest (decide (i = 0)) c.q s a = some (s', a', c'.q) → zB cfg (lim cfg) 93 F k (.exit 0) ⟨79, [(32, B false), (3, .fn (.func 96) [] [.ptr (B g), .ptr (I sh), .ptr (.agg [I bd.n, I bd.d])]), (9, .sl false (es.map zQ) 7 none), (10, .lref 0 0 3 0), (11, I (s')), (12, I (a')), (29, .sl nl (l.map encW) sz none), (30, I l.length), (31, I (l.length : Nat))], [(0, ⟨[.agg [I (c').q.n, I (c').q.d, whyD (c').why]], 3, false⟩)], 1, 0⟩ = some x) →
    (goG es lowM rest (decide (i = 0)) c.q s a = none → x = B false) →
    EvL cfg (lim cfg) 93 F lp93_6 k ⟨79, [(3, .fn (.func 96) [] [.ptr (B g), .ptr (I sh), .ptr (.agg [I bd.n, I bd.d])]), (9, .sl false (es.map zQ) 7 none), (10, .lref 0 0 3 0), (11, I (s)), (12, I (a)), (29, .sl nl (l.map encW) sz none), (30, I l.length), (31, I (i : Nat))], [(0, ⟨[.agg [I (c).q.n, I (c).q.d, whyD (c).why]], 3, false⟩)], 1, 0⟩ = some x := by
  intro rest
  induction rest with
  | nil =>
    intro i c s a hd hi hq h h0
    have hi' : i = l.length := by
      have := List.drop_eq_nil_iff.1 hd
      omega
    subst hi'
    have h := h c s a rfl
    clear h0
    refine zk ?_
    try dsimp only [lp93_6, zz, zo, Tryd.f93]
    simp only [bW, if_true, Nat.reduceEqDiff, if_false]
    repeat' first
      | (intro hb; first | cases hb | skip)
      | ((first | apply z8 | apply ze)
         · rfl
         · simp (disch := assumption) only [go_sem, Nat.reduceEqDiff, Nat.reduceAdd, bP, zf, Nat.reduceLeDiff, Nat.reduceLT, Nat.reduceMul, List.length_append, decide_eq_true_eq, z9, z6, Int.reduceToNat, Int.reduceLE, Int.reduceLT, Int.reduceBNe, Int.reduceBEq, Int.lt_irrefl]
           rfl
         · simp only [go_sem, Nat.reduceLT, Nat.reduceEqDiff]
           rfl
         · rfl
         first
         | (apply zd
            · simp only [z5, z0, Nat.reduceLT, decide_true, cond_true, ins]
              rfl
            · simp only [z5, z0, Nat.reduceLT, decide_true, cond_true, ins]
              rfl)
         | (apply zh
            · simp only [z5, z0, Nat.reduceLT, decide_true, cond_true, ins]
              rfl))
      | ((first | apply zb | apply zc)
         · rfl
         · simp only [z5, z0, Nat.reduceLT, decide_true, cond_true, ins]
           rfl)
      | (apply za
         · simp only [go_sem, Nat.reduceEqDiff])
      | (apply z7
         · simp only [go_sem, Nat.reduceEqDiff])
      | (apply zg
         · kernel_rfl
         · kernel_rfl)
      | (simp only [bW, if_true, Nat.reduceEqDiff, if_false])
    exact h
  | cons r rest ih =>
    intro i c s a hd hi hq h h0
    have hlt : i < l.length := by
      rcases Nat.lt_or_ge i l.length with h | h
      · exact h
      · rw [List.drop_eq_nil_of_le h] at hd; cases hd
    have hm : l[i]? = some r := by rw [← List.head?_drop, hd]; rfl
    have hx : (l.map encW)[i]? = some (.agg [B r.join, I r.at_, B r.back]) := by rw [List.getElem?_map, hm]; rfl
    have hnl' : nl = false := by
      cases h : nl with
      | false => rfl
      | true => rw [hnl h] at hlt; cases hlt
    have hs1 := hsz hnl'
    clear hsz
    subst hs1
    subst hnl'
    have hlt' : (i : Int) < (l.length : Int) := by omega
    have hw3 : IntKind.i64.wrap ((i : Int) + 1) = ((i + 1 : Nat) : Int) := by rw [wrap_i64 (by omega) (by omega)]; omega
    have h112 := t112 es r hlen
    obtain ⟨j1, j2⟩ := idxW_spec (es := es) (r := r) (rest := es) (i := 0) rfl
    simp only [goG] at h h0
    cases hf : findW es r with
    | none =>
      rw [j1 hf] at h112
      rw [hf] at h0
      rw [h0 rfl]
      clear h h0 ih
      refine zk ?_
      try dsimp only [lp93_6, zz, zo, Tryd.f93]
      simp only [bW, if_true, Nat.reduceEqDiff, if_false]
      repeat' first
        | (intro hb; first | cases hb | skip)
        | ((first | apply z8 | apply ze)
           · rfl
           · simp (disch := assumption) only [go_sem, Nat.reduceEqDiff, Nat.reduceAdd, bP, zf, Nat.reduceLeDiff, Nat.reduceLT, Nat.reduceMul, List.length_append, decide_eq_true_eq, z9, z6, Int.reduceToNat, Int.reduceLE, Int.reduceLT, Int.reduceBNe, Int.reduceBEq, hx, hlt', hw3, h112, whyD_one, pd_why, zG, ids_fn]
             rfl
           · simp only [go_sem, Nat.reduceLT, Nat.reduceEqDiff]
             rfl
           · rfl
           first
           | (apply zd
              · simp only [z5, z0, Nat.reduceLT, decide_true, cond_true, ins]
                rfl
              · simp only [z5, z0, Nat.reduceLT, decide_true, cond_true, ins]
                rfl)
           | (apply zh
              · simp only [z5, z0, Nat.reduceLT, decide_true, cond_true, ins]
                rfl))
        | ((first | apply zb | apply zc)
           · rfl
           · simp only [z5, z0, Nat.reduceLT, decide_true, cond_true, ins]
             rfl)
        | (apply za
           · simp only [go_sem, Nat.reduceEqDiff])
        | (apply z7
           · simp only [go_sem, Nat.reduceEqDiff])
        | (apply zg
           · kernel_rfl
           · kernel_rfl)
        | (simp only [bW, if_true, Nat.reduceEqDiff, if_false])
      exact hk _ rfl
    | some e =>
      obtain ⟨n, j3, j4⟩ := j2 e hf
      rw [j3] at h112
      rw [hf] at h h0
      simp only [] at h h0
      have hxe : (es.map zQ)[n]? = some (.agg [I e.src, I e.dst, I e.q.n, I e.q.d, B e.why.join, I e.why.at_, B e.why.back]) := by rw [List.getElem?_map, j4]; rfl
      have heb := hes e (List.mem_of_getElem? j4)
      have hp1 : (1 : Int) ≤ 2000 ^ i := Int.pow_pos (by omega)
      have hp2 : (2000 : Int) ^ i * 2000 ≤ 32000000000000000 := by
        have : i = 0 ∨ i = 1 ∨ i = 2 ∨ i = 3 ∨ i = 4 := by omega
        rcases this with h | h | h | h | h <;> rw [h] <;> decide
      have h107 := t107' hq heb (by omega) hp1 (by omega)
      have hq' := with_qB hq heb hp1
      rw [← Int.pow_succ] at hq'
      have hn0 : decide ((n : Int) < 0) = false := by simp
      have hz1 : decide (i + 1 = 0) = false := by simp
      rw [← hz1] at h h0
      by_cases hi0 : i = 0
      · have hd0 : decide (i = 0) = true := by simp [hi0]
        have c1 : decide ((i : Int) > 0) = false := by simp; omega
        have c2 : ((i : Int) == 0) = true := by simp [hi0]
        rw [if_neg (by rw [hz1, hd0]; simp), if_pos hd0] at h h0
        have h : ∀ (c' : Chn) (s' a' : Int), goG es lowM rest (decide (i + 1 = 0)) (withC c e).q e.src e.dst = some (s', a', c'.q) → _ := h
        have h0 : goG es lowM rest (decide (i + 1 = 0)) (withC c e).q e.src e.dst = none → _ := h0
        refine zk ?_
        try dsimp only [lp93_6, zz, zo, Tryd.f93]
        simp only [bW, if_true, Nat.reduceEqDiff, if_false]
        repeat' first
          | (intro hb; first | cases hb | skip)
          | ((first | apply z8 | apply ze)
             · rfl
             · simp (disch := assumption) only [go_sem, Nat.reduceEqDiff, Nat.reduceAdd, bP, zf, Nat.reduceLeDiff, Nat.reduceLT, Nat.reduceMul, List.length_append, decide_eq_true_eq, z9, z6, Int.reduceToNat, Int.reduceLE, Int.reduceLT, Int.reduceBNe, Int.reduceBEq, hx, hlt', hw3, h112, whyD_one, pd_why, zG, ids_fn, hxe, h107, hn0, c1, c2]
               rfl
             · simp only [go_sem, Nat.reduceLT, Nat.reduceEqDiff]
               rfl
             · rfl
             first
             | (apply zd
                · simp only [z5, z0, Nat.reduceLT, decide_true, cond_true, ins]
                  rfl
                · simp only [z5, z0, Nat.reduceLT, decide_true, cond_true, ins]
                  rfl)
             | (apply zh
                · simp only [z5, z0, Nat.reduceLT, decide_true, cond_true, ins]
                  rfl))
          | ((first | apply zb | apply zc)
             · rfl
             · simp only [z5, z0, Nat.reduceLT, decide_true, cond_true, ins]
               rfl)
          | (apply za
             · simp only [go_sem, Nat.reduceEqDiff])
          | (apply z7
             · simp only [go_sem, Nat.reduceEqDiff])
          | (apply zg
             · kernel_rfl
             · kernel_rfl)
          | (simp only [bW, if_true, Nat.reduceEqDiff, if_false])
        refine zu (st1 := ⟨79, [(3, .fn (.func 96) [] [.ptr (B g), .ptr (I sh), .ptr (.agg [I bd.n, I bd.d])]), (9, .sl false (es.map zQ) 7 none), (10, .lref 0 0 3 0), (11, I (e.src)), (12, I (e.dst)), (29, .sl false (l.map encW) 3 none), (30, I l.length), (31, I (i + 1 : Nat))], [(0, ⟨[.agg [I (withC c e).q.n, I (withC c e).q.d, whyD (withC c e).why]], 3, false⟩)], 1, 0⟩) lk93_6 (by
          simp only [go_sem, List.map_append, Nat.reduceEqDiff, Nat.reduceLT, Nat.reduceAdd, bI, bD, bI2, deep_net, deepI_net, ids_net, ren_net, deep_why, deepI_why, ids_why, ren_why, take_enc, drop_enc, catI_append, idsL_append, sn_lref, sn_agg, sn_val, zG, List.append_assoc]
          try rfl) (ih (i + 1) (withC c e) (e.src) (e.dst) (by rw [← List.drop_drop, hd]; rfl) hlt hq' h h0)
      · have hd0 : decide (i = 0) = false := by simp [hi0]
        have c1 : decide ((i : Int) > 0) = true := by simp; omega
        have c2 : ((i : Int) == 0) = false := by simp [hi0]
        by_cases ha : e.src = a
        · have c3 : (e.src != a) = false := by simp [ha]
          rw [if_neg (fun h => h.2 ha), if_neg (by rw [hd0]; simp)] at h h0
          have h : ∀ (c' : Chn) (s' a' : Int), goG es lowM rest (decide (i + 1 = 0)) (withC c e).q s e.dst = some (s', a', c'.q) → _ := h
          have h0 : goG es lowM rest (decide (i + 1 = 0)) (withC c e).q s e.dst = none → _ := h0
          refine zk ?_
          try dsimp only [lp93_6, zz, zo, Tryd.f93]
          simp only [bW, if_true, Nat.reduceEqDiff, if_false]
          repeat' first
            | (intro hb; first | cases hb | skip)
            | ((first | apply z8 | apply ze)
               · rfl
               · simp (disch := assumption) only [go_sem, Nat.reduceEqDiff, Nat.reduceAdd, bP, zf, Nat.reduceLeDiff, Nat.reduceLT, Nat.reduceMul, List.length_append, decide_eq_true_eq, z9, z6, Int.reduceToNat, Int.reduceLE, Int.reduceLT, Int.reduceBNe, Int.reduceBEq, hx, hlt', hw3, h112, whyD_one, pd_why, zG, ids_fn, hxe, h107, hn0, c1, c2, c3]
                 rfl
               · simp only [go_sem, Nat.reduceLT, Nat.reduceEqDiff]
                 rfl
               · rfl
               first
               | (apply zd
                  · simp only [z5, z0, Nat.reduceLT, decide_true, cond_true, ins]
                    rfl
                  · simp only [z5, z0, Nat.reduceLT, decide_true, cond_true, ins]
                    rfl)
               | (apply zh
                  · simp only [z5, z0, Nat.reduceLT, decide_true, cond_true, ins]
                    rfl))
            | ((first | apply zb | apply zc)
               · rfl
               · simp only [z5, z0, Nat.reduceLT, decide_true, cond_true, ins]
                 rfl)
            | (apply za
               · simp only [go_sem, Nat.reduceEqDiff])
            | (apply z7
               · simp only [go_sem, Nat.reduceEqDiff])
            | (apply zg
               · kernel_rfl
               · kernel_rfl)
            | (simp only [bW, if_true, Nat.reduceEqDiff, if_false])
          refine zu (st1 := ⟨79, [(3, .fn (.func 96) [] [.ptr (B g), .ptr (I sh), .ptr (.agg [I bd.n, I bd.d])]), (9, .sl false (es.map zQ) 7 none), (10, .lref 0 0 3 0), (11, I (s)), (12, I (e.dst)), (29, .sl false (l.map encW) 3 none), (30, I l.length), (31, I (i + 1 : Nat))], [(0, ⟨[.agg [I (withC c e).q.n, I (withC c e).q.d, whyD (withC c e).why]], 3, false⟩)], 1, 0⟩) lk93_6 (by
            simp only [go_sem, List.map_append, Nat.reduceEqDiff, Nat.reduceLT, Nat.reduceAdd, bI, bD, bI2, deep_net, deepI_net, ids_net, ren_net, deep_why, deepI_why, ids_why, ren_why, take_enc, drop_enc, catI_append, idsL_append, sn_lref, sn_agg, sn_val, zG, List.append_assoc]
            try rfl) (ih (i + 1) (withC c e) (s) (e.dst) (by rw [← List.drop_drop, hd]; rfl) hlt hq' h h0)
        · have c3 : (e.src != a) = true := by simp [ha]
          rw [if_pos ⟨by rw [hz1, hd0], ha⟩] at h0
          rw [h0 rfl]
          clear h h0 ih
          refine zk ?_
          try dsimp only [lp93_6, zz, zo, Tryd.f93]
          simp only [bW, if_true, Nat.reduceEqDiff, if_false]
          repeat' first
            | (intro hb; first | cases hb | skip)
            | ((first | apply z8 | apply ze)
               · rfl
               · simp (disch := assumption) only [go_sem, Nat.reduceEqDiff, Nat.reduceAdd, bP, zf, Nat.reduceLeDiff, Nat.reduceLT, Nat.reduceMul, List.length_append, decide_eq_true_eq, z9, z6, Int.reduceToNat, Int.reduceLE, Int.reduceLT, Int.reduceBNe, Int.reduceBEq, hx, hlt', hw3, h112, whyD_one, pd_why, zG, ids_fn, hxe, h107, hn0, c1, c2, c3]
                 rfl
               · simp only [go_sem, Nat.reduceLT, Nat.reduceEqDiff]
                 rfl
               · rfl
               first
               | (apply zd
                  · simp only [z5, z0, Nat.reduceLT, decide_true, cond_true, ins]
                    rfl
                  · simp only [z5, z0, Nat.reduceLT, decide_true, cond_true, ins]
                    rfl)
               | (apply zh
                  · simp only [z5, z0, Nat.reduceLT, decide_true, cond_true, ins]
                    rfl))
            | ((first | apply zb | apply zc)
               · rfl
               · simp only [z5, z0, Nat.reduceLT, decide_true, cond_true, ins]
                 rfl)
            | (apply za
               · simp only [go_sem, Nat.reduceEqDiff])
            | (apply z7
               · simp only [go_sem, Nat.reduceEqDiff])
            | (apply zg
               · kernel_rfl
               · kernel_rfl)
            | (simp only [bW, if_true, Nat.reduceEqDiff, if_false])
          exact hk _ rfl
def ans96 (g : Bool) (sh : Int) (bd : Ratio) (o : Option (Int × Int × Ratio)) : Bool := match o with | none => false | some (s, a, q) => proves g sh bd s a q
theorem t93_96 (g : Bool) (sh : Int) (bd : Ratio) (p : Paper) (ax : Int) (l : List Reason) (nl : Bool) (sz : Nat) (hwf : p.wf) (hok : zn p = true) (hnl : nl = true → l = []) (hsz : nl = false → sz = 3) (hll : l.length ≤ 9223372036854775807) (hb : ratioOK bd = true) (hs1 : 0 ≤ sh) (hs2 : sh ≤ 4) : (lim cfg).pure 93 [zt p, I ax, .sl nl (l.map encW) sz none, .fn (.func 96) [] [.ptr (B g), .ptr (I sh), .ptr (.agg [I bd.n, I bd.d])]] = some (B (ans96 g sh bd (followO p ax l))) := by
  have h68 := t68 p ax hwf hok
  obtain ⟨hes, hlen⟩ := edgesB hok ax
  have hlw := len_if (f := encW) hnl
  by_cases hl : 1 ≤ l.length ∧ l.length ≤ 5
  · have c1 : decide ((l.length : Int) < 1) = false := by simp; omega
    have c2 : decide ((l.length : Int) > 5) = false := by simp; omega
    have hfo : followO p ax l = goG (zA p ax) lowM l true one1 0 0 := by unfold followO; rw [if_pos hl]
    have hinv := fun s a q => follow_inv (s := s) (a := a) (q := q) hok (ax := ax) (l := l)
    rw [hfo] at hinv ⊢
    generalize zA p ax = es at *
    refine zm (zj 93) cfn93 rfl (n := 79) rfl ?_
    generalize hF : finP cfg Tryd.f93 = F
    simp only [bW, if_true, Nat.reduceEqDiff, if_false, zl]
    have hret : ∀ (v : Bool) st, get st.tmps 8 = B v → F .ret st = some (B v) := by
      intro v st h
      subst hF
      simp only [go_sem, Nat.reduceEqDiff, bP, Nat.reduceAdd, Nat.reduceLeDiff, List.length_map, Tryd.f93, h]
    repeat' first
      | (intro hb; first | cases hb | skip)
      | ((first | apply z8 | apply ze)
         · rfl
         · simp (disch := assumption) only [go_sem, Nat.reduceEqDiff, Nat.reduceAdd, bP, zf, Nat.reduceLeDiff, Nat.reduceLT, Nat.reduceMul, List.length_append, decide_eq_true_eq, z9, z6, Int.reduceToNat, Int.reduceLE, Int.reduceLT, Int.reduceBNe, Int.reduceBEq, hlw, c1, c2, h68, cfg_glob0]
           rfl
         · simp only [go_sem, Nat.reduceLT, Nat.reduceEqDiff]
           rfl
         · rfl
         first
         | (apply zd
            · simp only [z5, z0, Nat.reduceLT, decide_true, cond_true, ins]
              rfl
            · simp only [z5, z0, Nat.reduceLT, decide_true, cond_true, ins]
              rfl)
         | (apply zh
            · simp only [z5, z0, Nat.reduceLT, decide_true, cond_true, ins]
              rfl))
      | ((first | apply zb | apply zc)
         · rfl
         · simp only [z5, z0, Nat.reduceLT, decide_true, cond_true, ins]
           rfl)
      | (apply za
         · simp only [go_sem, Nat.reduceEqDiff])
      | (apply z7
         · simp only [go_sem, Nat.reduceEqDiff])
      | (apply zg
         · kernel_rfl
         · kernel_rfl)
      | (simp only [bW, if_true, Nat.reduceEqDiff, if_false])
    refine zS (st1 := ⟨79, [(3, .fn (.func 96) [] [.ptr (B g), .ptr (I sh), .ptr (.agg [I bd.n, I bd.d])]), (9, .sl false (es.map zQ) 7 none), (10, .lref 0 0 3 0), (11, I (0)), (12, I (0)), (29, .sl nl (l.map encW) sz none), (30, I l.length), (31, I (0 : Nat))], [(0, ⟨[.agg [I ((⟨one1, []⟩ : Chn)).q.n, I ((⟨one1, []⟩ : Chn)).q.d, whyD ((⟨one1, []⟩ : Chn)).why]], 3, false⟩)], 1, 0⟩) lk93_6 (by
      simp only [go_sem, List.map_append, Nat.reduceEqDiff, Nat.reduceLT, Nat.reduceAdd, bI, bD, bI2]
      try rfl) (L93_6_96 g sh bd es l nl sz _ _ hes hlen hnl hsz hl.2 (fun st h => by simp only [bW, if_true, Nat.reduceEqDiff, if_false]; exact hret false st h) l 0 ⟨one1, []⟩ 0 0 rfl (Nat.zero_le _) ⟨by decide, by decide, by decide, by decide, Nat.le_refl _⟩ (fun c s a h => ?_) (fun h => by
        have h : goG es lowM l true one1 0 0 = none := h
        rw [h]; rfl))
    have h : goG es lowM l true one1 0 0 = some (s, a, c.q) := h
    rw [h]
    obtain ⟨r1, r2, r3, r4, r5⟩ := hinv _ _ _ h
    have hask := t96 g sh bd s a c.q r1.1 r4 r1.2.1 r5 hb hs1 hs2
    simp only [bW, if_true, Nat.reduceEqDiff, if_false]
    repeat' first
      | (intro hb; first | cases hb | skip)
      | ((first | apply z8 | apply ze)
         · rfl
         · simp (disch := assumption) only [go_sem, Nat.reduceEqDiff, Nat.reduceAdd, bP, zf, Nat.reduceLeDiff, Nat.reduceLT, Nat.reduceMul, List.length_append, decide_eq_true_eq, z9, z6, Int.reduceToNat, Int.reduceLE, Int.reduceLT, Int.reduceBNe, Int.reduceBEq, hask, whyD_one, pd_why]
           rfl
         · simp only [go_sem, Nat.reduceLT, Nat.reduceEqDiff]
           rfl
         · rfl
         first
         | (apply zd
            · simp only [z5, z0, Nat.reduceLT, decide_true, cond_true, ins]
              rfl
            · simp only [z5, z0, Nat.reduceLT, decide_true, cond_true, ins]
              rfl)
         | (apply zh
            · simp only [z5, z0, Nat.reduceLT, decide_true, cond_true, ins]
              rfl))
      | ((first | apply zb | apply zc)
         · rfl
         · simp only [z5, z0, Nat.reduceLT, decide_true, cond_true, ins]
           rfl)
      | (apply za
         · simp only [go_sem, Nat.reduceEqDiff])
      | (apply z7
         · simp only [go_sem, Nat.reduceEqDiff])
      | (apply zg
         · kernel_rfl
         · kernel_rfl)
      | (simp only [bW, if_true, Nat.reduceEqDiff, if_false])
    all_goals (subst hF; simp only [go_sem, Nat.reduceEqDiff, bP, Nat.reduceAdd, Nat.reduceLeDiff, List.length_map, Tryd.f93, ans96])
    all_goals first | done | simp_all
  · have hfo : followO p ax l = none := by unfold followO; rw [if_neg hl]
    rw [hfo]
    by_cases h1 : l.length < 1
    · have c1 : decide ((l.length : Int) < 1) = true := by simp; omega
      refine zm (zj 93) cfn93 rfl (n := 79) rfl ?_
      simp only [bW, if_true, Nat.reduceEqDiff, if_false, zl]
      repeat' first
        | (intro hb; first | cases hb | skip)
        | ((first | apply z8 | apply ze)
           · rfl
           · simp (disch := assumption) only [go_sem, Nat.reduceEqDiff, Nat.reduceAdd, bP, zf, Nat.reduceLeDiff, Nat.reduceLT, Nat.reduceMul, List.length_append, decide_eq_true_eq, z9, z6, Int.reduceToNat, Int.reduceLE, Int.reduceLT, Int.reduceBNe, Int.reduceBEq, hlw, c1]
             rfl
           · simp only [go_sem, Nat.reduceLT, Nat.reduceEqDiff]
             rfl
           · rfl
           first
           | (apply zd
              · simp only [z5, z0, Nat.reduceLT, decide_true, cond_true, ins]
                rfl
              · simp only [z5, z0, Nat.reduceLT, decide_true, cond_true, ins]
                rfl)
           | (apply zh
              · simp only [z5, z0, Nat.reduceLT, decide_true, cond_true, ins]
                rfl))
        | ((first | apply zb | apply zc)
           · rfl
           · simp only [z5, z0, Nat.reduceLT, decide_true, cond_true, ins]
             rfl)
        | (apply za
           · simp only [go_sem, Nat.reduceEqDiff])
        | (apply z7
           · simp only [go_sem, Nat.reduceEqDiff])
        | (apply zg
           · kernel_rfl
           · kernel_rfl)
        | (simp only [bW, if_true, Nat.reduceEqDiff, if_false])
      all_goals try simp only [go_sem, Nat.reduceEqDiff, bP, Nat.reduceAdd, Nat.reduceLeDiff, List.length_map, Tryd.f93, ans96]
      all_goals first | done | rfl | (simp_all []; done) | trace_state
    · have c1 : decide ((l.length : Int) < 1) = false := by simp; omega
      have c2 : decide ((l.length : Int) > 5) = true := by simp; omega
      refine zm (zj 93) cfn93 rfl (n := 79) rfl ?_
      simp only [bW, if_true, Nat.reduceEqDiff, if_false, zl]
      repeat' first
        | (intro hb; first | cases hb | skip)
        | ((first | apply z8 | apply ze)
           · rfl
           · simp (disch := assumption) only [go_sem, Nat.reduceEqDiff, Nat.reduceAdd, bP, zf, Nat.reduceLeDiff, Nat.reduceLT, Nat.reduceMul, List.length_append, decide_eq_true_eq, z9, z6, Int.reduceToNat, Int.reduceLE, Int.reduceLT, Int.reduceBNe, Int.reduceBEq, hlw, c1, c2]
             rfl
           · simp only [go_sem, Nat.reduceLT, Nat.reduceEqDiff]
             rfl
           · rfl
           first
           | (apply zd
              · simp only [z5, z0, Nat.reduceLT, decide_true, cond_true, ins]
                rfl
              · simp only [z5, z0, Nat.reduceLT, decide_true, cond_true, ins]
                rfl)
           | (apply zh
              · simp only [z5, z0, Nat.reduceLT, decide_true, cond_true, ins]
                rfl))
        | ((first | apply zb | apply zc)
           · rfl
           · simp only [z5, z0, Nat.reduceLT, decide_true, cond_true, ins]
             rfl)
        | (apply za
           · simp only [go_sem, Nat.reduceEqDiff])
        | (apply z7
           · simp only [go_sem, Nat.reduceEqDiff])
        | (apply zg
           · kernel_rfl
           · kernel_rfl)
        | (simp only [bW, if_true, Nat.reduceEqDiff, if_false])
      all_goals try simp only [go_sem, Nat.reduceEqDiff, bP, Nat.reduceAdd, Nat.reduceLeDiff, List.length_map, Tryd.f93, ans96]
      all_goals first | done | rfl | (simp_all []; done) | trace_state

end Go.VS
namespace Go.VS
open Go Go.Proofs
set_option maxHeartbeats 0
set_option linter.unusedSimpArgs false

def encY (e : Edge) : D := .agg [B e.why.join, I e.why.at_, B e.why.back, I e.src, I e.dst, I e.q.n, I e.q.d]
theorem okY : EncOK 7 encY := ⟨fun _ _ _ => rfl, fun _ _ => rfl, fun _ _ _ => rfl, fun _ => ⟨rfl, rfl⟩⟩
def cN (c : NetF) : List D := [I (c 0 0).n, I (c 0 0).d, I (c 0 1).n, I (c 0 1).d, I (c 0 2).n, I (c 0 2).d, I (c 0 3).n, I (c 0 3).d, I (c 0 4).n, I (c 0 4).d, I (c 1 0).n, I (c 1 0).d, I (c 1 1).n, I (c 1 1).d, I (c 1 2).n, I (c 1 2).d, I (c 1 3).n, I (c 1 3).d, I (c 1 4).n, I (c 1 4).d, I (c 2 0).n, I (c 2 0).d, I (c 2 1).n, I (c 2 1).d, I (c 2 2).n, I (c 2 2).d, I (c 2 3).n, I (c 2 3).d, I (c 2 4).n, I (c 2 4).d, I (c 3 0).n, I (c 3 0).d, I (c 3 1).n, I (c 3 1).d, I (c 3 2).n, I (c 3 2).d, I (c 3 3).n, I (c 3 3).d, I (c 3 4).n, I (c 3 4).d, I (c 4 0).n, I (c 4 0).d, I (c 4 1).n, I (c 4 1).d, I (c 4 2).n, I (c 4 2).d, I (c 4 3).n, I (c 4 3).d, I (c 4 4).n, I (c 4 4).d]
def zN : List D := cN fun _ _ => ⟨0, 0⟩
theorem cN_len {c : NetF} : (cN c).length = 50 := rfl
theorem cN_one {c : NetF} : allOne (cN c) = true := rfl
theorem cN_ids {n : Nat} {c : NetF} : idsL (idsD (n + 1)) (cN c) = some [] := rfl
theorem cN_ren {ρ : Nat → Option Nat} {n : Nat} {c : NetF} : (cN c).map (renD ρ (n + 1)) = cN c := rfl
theorem cN_snap {g : Nat → Option Ob} {n : Nat} {c : NetF} : snapAll (snap g (n + 1)) (cN c) = some (cN c, []) := rfl
theorem cN_flat {n : Nat} {c : NetF} : flatL (flat (n + 1)) (cN c) = true := rfl
theorem cN_take {c : NetF} : (cN c).take 50 = cN c := rfl
theorem zN_len : zN.length = 50 := rfl
theorem zN_one : allOne zN = true := rfl
theorem zN_ids {n : Nat} : idsL (idsD (n + 1)) zN = some [] := rfl
theorem zN_ren {ρ : Nat → Option Nat} {n : Nat} : zN.map (renD ρ (n + 1)) = zN := rfl
theorem zN_drop : zN.drop 50 = [] := rfl
theorem five {i : Nat} (h : i < 5) : i = 0 ∨ i = 1 ∨ i = 2 ∨ i = 3 ∨ i = 4 := by omega
theorem cN_get {c : NetF} {i j : Nat} (hi : i < 5) (hj : j < 5) : (cN c)[i * 10 + j * 2]? = some (I (c i j).n) ∧ (cN c)[i * 10 + j * 2 + 1]? = some (I (c i j).d) ∧ ((cN c).drop (i * 10 + j * 2)).take 2 = [I (c i j).n, I (c i j).d] := by
  rcases five hi with rfl | rfl | rfl | rfl | rfl <;> rcases five hj with rfl | rfl | rfl | rfl | rfl <;> exact ⟨rfl, rfl, rfl⟩
theorem cN_put {c : NetF} {r : Ratio} {i j : Nat} (hi : i < 5) (hj : j < 5) : (cN c).take (i * 10 + j * 2) ++ [I r.n, I r.d] ++ (cN c).drop (i * 10 + j * 2 + 2) = cN (putF c i j r) := by
  rcases five hi with rfl | rfl | rfl | rfl | rfl <;> rcases five hj with rfl | rfl | rfl | rfl | rfl <;> rfl

theorem t22b (m : Int) (a b : Ratio) (hm : m ≤ 16000000000000) (ha : 1 ≤ a.n ∧ a.n ≤ 2000 ∧ 1 ≤ a.d ∧ a.d ≤ 2000) (hb : 1 ≤ b.n ∧ b.n ≤ m ∧ 1 ≤ b.d ∧ b.d ≤ m) : (lim cfg).pure 22 [.agg [I a.n, I a.d], .agg [I b.n, I b.d]] = some (.agg [I (zK a b).n, I (zK a b).d]) := by
  obtain ⟨a1, a2, a3, a4⟩ := ha
  obtain ⟨b1, b2, b3, b4⟩ := hb
  obtain ⟨l1, l2, l3, l4⟩ := low_le a1 b3
  obtain ⟨m1, m2, m3, m4⟩ := low_le b1 a3
  have q1 := Int.mul_le_mul l1 m1 (by omega) (by omega)
  have q3 := Int.mul_le_mul l3 m3 (by omega) (by omega)
  have q2 : (lowR a.n b.d).n * (lowR b.n a.d).n ≤ 2000 * m := Int.mul_le_mul (by omega) (by omega) (by omega) (by omega)
  have q4 : (lowR a.n b.d).d * (lowR b.n a.d).d ≤ m * 2000 := Int.mul_le_mul (by omega) (by omega) (by omega) (by omega)
  have w1 : IntKind.i64.wrap ((lowR a.n b.d).n * (lowR b.n a.d).n) = (lowR a.n b.d).n * (lowR b.n a.d).n := wrap_i64 (by omega) (by omega)
  have w2 : IntKind.i64.wrap ((lowR a.n b.d).d * (lowR b.n a.d).d) = (lowR a.n b.d).d * (lowR b.n a.d).d := wrap_i64 (by omega) (by omega)
  have e1 := t74 a.n b.d a1 (by omega) b3 (by omega)
  have e2 := t74 b.n a.d b1 (by omega) a3 (by omega)
  have e3 := t74 ((lowR a.n b.d).n * (lowR b.n a.d).n) ((lowR a.n b.d).d * (lowR b.n a.d).d) (by omega) (by omega) (by omega) (by omega)
  refine zm (zj 22) cfn22 rfl (n := 28) rfl ?_
  simp only [bW, if_true, Nat.reduceEqDiff, if_false, zl]
  repeat' first
    | (intro hb; first | cases hb | skip)
    | ((first | apply z8 | apply ze)
       · rfl
       · simp (disch := assumption) only [go_sem, Nat.reduceEqDiff, Nat.reduceAdd, bP, zf, Nat.reduceLeDiff, Nat.reduceLT, Nat.reduceMul, List.length_append, decide_eq_true_eq, z9, z6, Int.reduceToNat, Int.reduceLE, Int.reduceLT, Int.reduceBNe, Int.reduceBEq, e1, e2, e3, w1, w2]
         rfl
       · simp only [go_sem, Nat.reduceLT, Nat.reduceEqDiff]
         rfl
       · rfl
       first
       | (apply zd
          · simp only [z5, z0, Nat.reduceLT, decide_true, cond_true, ins]
            rfl
          · simp only [z5, z0, Nat.reduceLT, decide_true, cond_true, ins]
            rfl)
       | (apply zh
          · simp only [z5, z0, Nat.reduceLT, decide_true, cond_true, ins]
            rfl))
    | ((first | apply zb | apply zc)
       · rfl
       · simp only [z5, z0, Nat.reduceLT, decide_true, cond_true, ins]
         rfl)
    | (apply za
       · simp only [go_sem, Nat.reduceEqDiff])
    | (apply z7
       · simp only [go_sem, Nat.reduceEqDiff])
    | (apply zg
       · kernel_rfl
       · kernel_rfl)
    | (simp only [bW, if_true, Nat.reduceEqDiff, if_false])
  all_goals simp only [go_sem, Nat.reduceEqDiff, bP, Nat.reduceAdd, Nat.reduceLeDiff, List.length_map, Tryd.f22]
  all_goals first | rfl | (simp_all []; done) | (simp_all []; intros; omega)

noncomputable def lp110_3 : Code := zz [1, 1, 0, 1, 0, 0] (zo Tryd.f110)
theorem lk110_3 : cfg.keep 110 (zr lp110_3) = [1, 2, 4, 5, 6] := by kernel_rfl
noncomputable def lp110_6 : Code := zz [1, 1, 0, 1, 0, 0, 1, 0, 0, 1, 0, 0] (zo Tryd.f110)
theorem lk110_6 : cfg.keep 110 (zr lp110_6) = [1, 2, 4, 5, 6, 7] := by kernel_rfl

theorem he_times {m : Int} (_ : m ≤ 16000000000000) {c : NetF} (hc : nB m c) {q : Ratio} {b j : Nat} (e5 : 1 ≤ q.n ∧ q.n ≤ 2000 ∧ 1 ≤ q.d ∧ q.d ≤ 2000) (h : (c b j).n ≠ 0) : 1 ≤ (zK q (c b j)).n ∧ (zK q (c b j)).n ≤ 2000 * m ∧ 1 ≤ (zK q (c b j)).d ∧ (zK q (c b j)).d ≤ 2000 * m := timesB e5 ((hc b j).resolve_left h)
theorem L110_6 {F : Exit → St → Option D} (es : List Edge) (c : NetF) (m : Int) (i : Nat) (e : Edge) (k : List Kt) (x : D) (hm1 : 1 ≤ m) (hm : m ≤ 16000000000000) (hc : nB m c) (he : eB e) (hi : es[i]? = some e) : ∀ (n j : Nat) (out : NetF), j + n = 5 → nB (2000 * m) out →
    (zB cfg (lim cfg) 110 F k (.exit 2) ⟨81, [(17, B false), (16, I (5 : Nat)), (1, .sl false (es.map encY) 7 none), (2, .lref 0 0 50 0), (4, .lref 1 0 50 0), (5, .lref 2 0 50 0), (6, I (i : Nat)), (7, I (5 : Nat))], [(0, ⟨[.agg (cN c)], 50, false⟩), (1, ⟨[.agg zN], 50, false⟩), (2, ⟨[.agg (cN (innerF c e n j out))], 50, false⟩)], 3, 0⟩ = some x) →
    EvL cfg (lim cfg) 110 F lp110_6 k ⟨81, [(1, .sl false (es.map encY) 7 none), (2, .lref 0 0 50 0), (4, .lref 1 0 50 0), (5, .lref 2 0 50 0), (6, I (i : Nat)), (7, I (j : Nat))], [(0, ⟨[.agg (cN c)], 50, false⟩), (1, ⟨[.agg zN], 50, false⟩), (2, ⟨[.agg (cN (out))], 50, false⟩)], 3, 0⟩ = some x := by
  obtain ⟨e1, e2, e3, e4, e5⟩ := he
  obtain ⟨a, ha⟩ := Int.eq_ofNat_of_zero_le e1
  obtain ⟨b, hb⟩ := Int.eq_ofNat_of_zero_le e3
  have hat : e.src.toNat = a := by omega
  have hbt : e.dst.toNat = b := by omega
  have hx : (es.map encY)[i]? = some (.agg [B e.why.join, I e.why.at_, B e.why.back, I (a : Nat), I (b : Nat), I e.q.n, I e.q.d]) := by rw [List.getElem?_map, hi]; show some (encY e) = _; unfold encY; rw [ha, hb]
  have ha5' : a < 5 := by omega
  have hb5' : b < 5 := by omega
  have ha5 : (a < 5) = True := by simp; omega
  have hb5 : (b < 5) = True := by simp; omega
  intro n
  induction n with
  | zero =>
    intro j out hj hob h
    obtain rfl : j = 5 := by omega
    simp only [innerF] at h
    refine zk ?_
    try dsimp only [lp110_6, zz, zo, Tryd.f110]
    simp only [bW, if_true, Nat.reduceEqDiff, if_false]
    repeat' first
      | (intro hb; first | cases hb | skip)
      | ((first | apply z8 | apply ze)
         · rfl
         · simp (disch := assumption) only [go_sem, Nat.reduceEqDiff, Nat.reduceAdd, bP, zf, Nat.reduceLeDiff, Nat.reduceLT, Nat.reduceMul, List.length_append, decide_eq_true_eq, z9, z6, Int.reduceToNat, Int.reduceLE, Int.reduceLT, Int.reduceBNe, Int.reduceBEq, show (decide (((5 : Nat) : Int) < 5)) = false from rfl]
           rfl
         · simp only [go_sem, Nat.reduceLT, Nat.reduceEqDiff]
           rfl
         · rfl
         first
         | (apply zd
            · simp only [z5, z0, Nat.reduceLT, decide_true, cond_true, ins]
              rfl
            · simp only [z5, z0, Nat.reduceLT, decide_true, cond_true, ins]
              rfl)
         | (apply zh
            · simp only [z5, z0, Nat.reduceLT, decide_true, cond_true, ins]
              rfl))
      | ((first | apply zb | apply zc)
         · rfl
         · simp only [z5, z0, Nat.reduceLT, decide_true, cond_true, ins]
           rfl)
      | (apply za
         · simp only [go_sem, Nat.reduceEqDiff])
      | (apply z7
         · simp only [go_sem, Nat.reduceEqDiff])
      | (apply zg
         · kernel_rfl
         · kernel_rfl)
      | (simp only [bW, if_true, Nat.reduceEqDiff, if_false])
    exact h
  | succ n ih =>
    intro j out hj hob h
    have hj5n : j < 5 := by omega
    have hj5 : ((j : Int) < 5) = True := by simp; omega
    have hj5' : (j < 5) = True := by simp; omega
    have hwj : IntKind.i64.wrap ((j : Int) + 1) = ((j + 1 : Nat) : Int) := by rw [wrap_i64 (by omega) (by omega)]; omega
    obtain ⟨hN, hN2, hD⟩ := cN_get (c := c) hb5' hj5n
    obtain ⟨hO, hO2, hOD⟩ := cN_get (c := out) ha5' hj5n
    have hb50 : (b * 10 + j * 2 + 2 ≤ 50) = True := by simp; omega
    have ha50 : (a * 10 + j * 2 + 2 ≤ 50) = True := by simp; omega
    have hput := cN_put (c := out) (r := zK e.q (c b j)) ha5' hj5n
    have ht := he_times hm hc (b := b) (j := j) e5
    simp only [innerF] at h
    have hob' := stepB (e := e) (j := j) hc ⟨e1, e2, e3, e4, e5⟩ hob
    by_cases hz : (c b j).n = 0
    · have hz1 : ((c b j).n == 0) = true := by simp [hz]
      have hs : stepF c e out j = out := by unfold stepF; rw [hbt, if_pos hz]
      rw [hs] at h
      refine zk ?_
      try dsimp only [lp110_6, zz, zo, Tryd.f110]
      simp only [bW, if_true, Nat.reduceEqDiff, if_false]
      repeat' first
        | (intro hb; first | cases hb | skip)
        | ((first | apply z8 | apply ze)
           · rfl
           · simp (disch := assumption) only [go_sem, Nat.reduceEqDiff, Nat.reduceAdd, bP, zf, Nat.reduceLeDiff, Nat.reduceLT, Nat.reduceMul, List.length_append, decide_eq_true_eq, z9, z6, Int.reduceToNat, Int.reduceLE, Int.reduceLT, Int.reduceBNe, Int.reduceBEq, hx, hj5, hj5', ha5, hb5, hN, hD, hO, hwj, hb50, ha50, cN_len, cN_one, cN_take, zN_len, zN_one, zN_drop, hz1]
             rfl
           · simp only [go_sem, Nat.reduceLT, Nat.reduceEqDiff]
             rfl
           · rfl
           first
           | (apply zd
              · simp only [z5, z0, Nat.reduceLT, decide_true, cond_true, ins]
                rfl
              · simp only [z5, z0, Nat.reduceLT, decide_true, cond_true, ins]
                rfl)
           | (apply zh
              · simp only [z5, z0, Nat.reduceLT, decide_true, cond_true, ins]
                rfl))
        | ((first | apply zb | apply zc)
           · rfl
           · simp only [z5, z0, Nat.reduceLT, decide_true, cond_true, ins]
             rfl)
        | (apply za
           · simp only [go_sem, Nat.reduceEqDiff])
        | (apply z7
           · simp only [go_sem, Nat.reduceEqDiff])
        | (apply zg
           · kernel_rfl
           · kernel_rfl)
        | (simp only [bW, if_true, Nat.reduceEqDiff, if_false])
      refine zu (st1 := ⟨81, [(1, .sl false (es.map encY) 7 none), (2, .lref 0 0 50 0), (4, .lref 1 0 50 0), (5, .lref 2 0 50 0), (6, I (i : Nat)), (7, I (j + 1 : Nat))], [(0, ⟨[.agg (cN c)], 50, false⟩), (1, ⟨[.agg zN], 50, false⟩), (2, ⟨[.agg (cN (out))], 50, false⟩)], 3, 0⟩) lk110_6 (by
        simp only [go_sem, List.map_append, Nat.reduceEqDiff, Nat.reduceLT, Nat.reduceAdd, bI, bD, bI2, cN_ids, cN_ren, zN_ids, zN_ren]
        try rfl) (ih (j + 1) _ (by omega) hob h)
    · have hz1 : ((c b j).n == 0) = false := by simp [hz]
      obtain ⟨q1, q2, q3, q4⟩ := ht hz
      have h22 := t22b m e.q (c b j) hm e5 ((hc b j).resolve_left hz)
      by_cases hy : (out a j).n = 0
      · have hy1 : ((out a j).n == 0) = true := by simp [hy]
        have hs : stepF c e out j = putF out a j (zK e.q (c b j)) := by unfold stepF; rw [hbt, hat, if_neg hz, if_pos (.inl hy)]
        rw [hs] at h hob'
        refine zk ?_
        try dsimp only [lp110_6, zz, zo, Tryd.f110]
        simp only [bW, if_true, Nat.reduceEqDiff, if_false]
        repeat' first
          | (intro hb; first | cases hb | skip)
          | ((first | apply z8 | apply ze)
             · rfl
             · simp (disch := assumption) only [go_sem, Nat.reduceEqDiff, Nat.reduceAdd, bP, zf, Nat.reduceLeDiff, Nat.reduceLT, Nat.reduceMul, List.length_append, decide_eq_true_eq, z9, z6, Int.reduceToNat, Int.reduceLE, Int.reduceLT, Int.reduceBNe, Int.reduceBEq, hx, hj5, hj5', ha5, hb5, hN, hD, hO, hOD, hwj, hb50, ha50, hput, cN_len, cN_one, cN_take, zN_len, zN_one, zN_drop, hz1, hy1, h22]
               rfl
             · simp only [go_sem, Nat.reduceLT, Nat.reduceEqDiff]
               rfl
             · rfl
             first
             | (apply zd
                · simp only [z5, z0, Nat.reduceLT, decide_true, cond_true, ins]
                  rfl
                · simp only [z5, z0, Nat.reduceLT, decide_true, cond_true, ins]
                  rfl)
             | (apply zh
                · simp only [z5, z0, Nat.reduceLT, decide_true, cond_true, ins]
                  rfl))
          | ((first | apply zb | apply zc)
             · rfl
             · simp only [z5, z0, Nat.reduceLT, decide_true, cond_true, ins]
               rfl)
          | (apply za
             · simp only [go_sem, Nat.reduceEqDiff])
          | (apply z7
             · simp only [go_sem, Nat.reduceEqDiff])
          | (apply zg
             · kernel_rfl
             · kernel_rfl)
          | (simp only [bW, if_true, Nat.reduceEqDiff, if_false])
        refine zu (st1 := ⟨81, [(1, .sl false (es.map encY) 7 none), (2, .lref 0 0 50 0), (4, .lref 1 0 50 0), (5, .lref 2 0 50 0), (6, I (i : Nat)), (7, I (j + 1 : Nat))], [(0, ⟨[.agg (cN c)], 50, false⟩), (1, ⟨[.agg zN], 50, false⟩), (2, ⟨[.agg (cN (putF out a j (zK e.q (c b j))))], 50, false⟩)], 3, 0⟩) lk110_6 (by
          simp only [go_sem, List.map_append, Nat.reduceEqDiff, Nat.reduceLT, Nat.reduceAdd, bI, bD, bI2, cN_ids, cN_ren, zN_ids, zN_ren]
          try rfl) (ih (j + 1) _ (by omega) hob' h)
      · have hy1 : ((out a j).n == 0) = false := by simp [hy]
        obtain ⟨y1, y2, y3, y4⟩ := (hob a j).resolve_left hy
        have h23 := t23i (zK e.q (c b j)).n (zK e.q (c b j)).d (out a j).n (out a j).d (by omega) (by omega) q3 (by omega) (by omega) (by omega) y3 (by omega)
        by_cases hl : cmpR (zK e.q (c b j)) (out a j) < 0
        · have hl1 : decide (cmpI ((zK e.q (c b j)).n * (out a j).d) ((out a j).n * (zK e.q (c b j)).d) < 0) = true := decide_eq_true hl
          have hs : stepF c e out j = putF out a j (zK e.q (c b j)) := by unfold stepF; rw [hbt, hat, if_neg hz, if_pos (.inr hl)]
          rw [hs] at h hob'
          refine zk ?_
          try dsimp only [lp110_6, zz, zo, Tryd.f110]
          simp only [bW, if_true, Nat.reduceEqDiff, if_false]
          repeat' first
            | (intro hb; first | cases hb | skip)
            | ((first | apply z8 | apply ze)
               · rfl
               · simp (disch := assumption) only [go_sem, Nat.reduceEqDiff, Nat.reduceAdd, bP, zf, Nat.reduceLeDiff, Nat.reduceLT, Nat.reduceMul, List.length_append, decide_eq_true_eq, z9, z6, Int.reduceToNat, Int.reduceLE, Int.reduceLT, Int.reduceBNe, Int.reduceBEq, hx, hj5, hj5', ha5, hb5, hN, hD, hO, hOD, hwj, hb50, ha50, hput, cN_len, cN_one, cN_take, zN_len, zN_one, zN_drop, hz1, hy1, h22, h23, hl1]
                 rfl
               · simp only [go_sem, Nat.reduceLT, Nat.reduceEqDiff]
                 rfl
               · rfl
               first
               | (apply zd
                  · simp only [z5, z0, Nat.reduceLT, decide_true, cond_true, ins]
                    rfl
                  · simp only [z5, z0, Nat.reduceLT, decide_true, cond_true, ins]
                    rfl)
               | (apply zh
                  · simp only [z5, z0, Nat.reduceLT, decide_true, cond_true, ins]
                    rfl))
            | ((first | apply zb | apply zc)
               · rfl
               · simp only [z5, z0, Nat.reduceLT, decide_true, cond_true, ins]
                 rfl)
            | (apply za
               · simp only [go_sem, Nat.reduceEqDiff])
            | (apply z7
               · simp only [go_sem, Nat.reduceEqDiff])
            | (apply zg
               · kernel_rfl
               · kernel_rfl)
            | (simp only [bW, if_true, Nat.reduceEqDiff, if_false])
          refine zu (st1 := ⟨81, [(1, .sl false (es.map encY) 7 none), (2, .lref 0 0 50 0), (4, .lref 1 0 50 0), (5, .lref 2 0 50 0), (6, I (i : Nat)), (7, I (j + 1 : Nat))], [(0, ⟨[.agg (cN c)], 50, false⟩), (1, ⟨[.agg zN], 50, false⟩), (2, ⟨[.agg (cN (putF out a j (zK e.q (c b j))))], 50, false⟩)], 3, 0⟩) lk110_6 (by
            simp only [go_sem, List.map_append, Nat.reduceEqDiff, Nat.reduceLT, Nat.reduceAdd, bI, bD, bI2, cN_ids, cN_ren, zN_ids, zN_ren]
            try rfl) (ih (j + 1) _ (by omega) hob' h)
        · have hl1 : decide (cmpI ((zK e.q (c b j)).n * (out a j).d) ((out a j).n * (zK e.q (c b j)).d) < 0) = false := decide_eq_false hl
          have hs : stepF c e out j = out := by unfold stepF; rw [hbt, hat, if_neg hz, if_neg (fun h => h.elim hy hl)]
          rw [hs] at h
          refine zk ?_
          try dsimp only [lp110_6, zz, zo, Tryd.f110]
          simp only [bW, if_true, Nat.reduceEqDiff, if_false]
          repeat' first
            | (intro hb; first | cases hb | skip)
            | ((first | apply z8 | apply ze)
               · rfl
               · simp (disch := assumption) only [go_sem, Nat.reduceEqDiff, Nat.reduceAdd, bP, zf, Nat.reduceLeDiff, Nat.reduceLT, Nat.reduceMul, List.length_append, decide_eq_true_eq, z9, z6, Int.reduceToNat, Int.reduceLE, Int.reduceLT, Int.reduceBNe, Int.reduceBEq, hx, hj5, hj5', ha5, hb5, hN, hD, hO, hOD, hwj, hb50, ha50, cN_len, cN_one, cN_take, zN_len, zN_one, zN_drop, hz1, hy1, h22, h23, hl1]
                 rfl
               · simp only [go_sem, Nat.reduceLT, Nat.reduceEqDiff]
                 rfl
               · rfl
               first
               | (apply zd
                  · simp only [z5, z0, Nat.reduceLT, decide_true, cond_true, ins]
                    rfl
                  · simp only [z5, z0, Nat.reduceLT, decide_true, cond_true, ins]
                    rfl)
               | (apply zh
                  · simp only [z5, z0, Nat.reduceLT, decide_true, cond_true, ins]
                    rfl))
            | ((first | apply zb | apply zc)
               · rfl
               · simp only [z5, z0, Nat.reduceLT, decide_true, cond_true, ins]
                 rfl)
            | (apply za
               · simp only [go_sem, Nat.reduceEqDiff])
            | (apply z7
               · simp only [go_sem, Nat.reduceEqDiff])
            | (apply zg
               · kernel_rfl
               · kernel_rfl)
            | (simp only [bW, if_true, Nat.reduceEqDiff, if_false])
          refine zu (st1 := ⟨81, [(1, .sl false (es.map encY) 7 none), (2, .lref 0 0 50 0), (4, .lref 1 0 50 0), (5, .lref 2 0 50 0), (6, I (i : Nat)), (7, I (j + 1 : Nat))], [(0, ⟨[.agg (cN c)], 50, false⟩), (1, ⟨[.agg zN], 50, false⟩), (2, ⟨[.agg (cN (out))], 50, false⟩)], 3, 0⟩) lk110_6 (by
            simp only [go_sem, List.map_append, Nat.reduceEqDiff, Nat.reduceLT, Nat.reduceAdd, bI, bD, bI2, cN_ids, cN_ren, zN_ids, zN_ren]
            try rfl) (ih (j + 1) _ (by omega) hob h)

theorem L110_3 {F : Exit → St → Option D} (es : List Edge) (c : NetF) (m : Int) (k : List Kt) (x : D) (hm1 : 1 ≤ m) (hm : m ≤ 16000000000000) (hc : nB m c) (hes : ∀ e ∈ es, eB e) (hlen : es.length ≤ 1000) : ∀ (rest : List Edge) (i : Nat) (out : NetF), es.drop i = rest → i ≤ es.length → nB (2000 * m) out →
    (zB cfg (lim cfg) 110 F k (.exit 0) ⟨81, [(13, B false), (12, I es.length), (11, .sl false (es.map encY) 7 none), (10, I (es.length : Nat)), (1, .sl false (es.map encY) 7 none), (2, .lref 0 0 50 0), (4, .lref 1 0 50 0), (5, .lref 2 0 50 0), (6, I (es.length : Nat))], [(0, ⟨[.agg (cN c)], 50, false⟩), (1, ⟨[.agg zN], 50, false⟩), (2, ⟨[.agg (cN (foldF c rest out))], 50, false⟩)], 3, 0⟩ = some x) →
    EvL cfg (lim cfg) 110 F lp110_3 k ⟨81, [(1, .sl false (es.map encY) 7 none), (2, .lref 0 0 50 0), (4, .lref 1 0 50 0), (5, .lref 2 0 50 0), (6, I (i : Nat))], [(0, ⟨[.agg (cN c)], 50, false⟩), (1, ⟨[.agg zN], 50, false⟩), (2, ⟨[.agg (cN (out))], 50, false⟩)], 3, 0⟩ = some x := by
  intro rest
  induction rest with
  | nil =>
    intro i out hd hi hob h
    have hi' : i = es.length := by
      have := List.drop_eq_nil_iff.1 hd
      omega
    subst hi'
    simp only [foldF] at h
    refine zk ?_
    try dsimp only [lp110_3, zz, zo, Tryd.f110]
    simp only [bW, if_true, Nat.reduceEqDiff, if_false]
    repeat' first
      | (intro hb; first | cases hb | skip)
      | ((first | apply z8 | apply ze)
         · rfl
         · simp (disch := assumption) only [go_sem, Nat.reduceEqDiff, Nat.reduceAdd, bP, zf, Nat.reduceLeDiff, Nat.reduceLT, Nat.reduceMul, List.length_append, decide_eq_true_eq, z9, z6, Int.reduceToNat, Int.reduceLE, Int.reduceLT, Int.reduceBNe, Int.reduceBEq, Int.lt_irrefl, List.length_map]
           rfl
         · simp only [go_sem, Nat.reduceLT, Nat.reduceEqDiff]
           rfl
         · rfl
         first
         | (apply zd
            · simp only [z5, z0, Nat.reduceLT, decide_true, cond_true, ins]
              rfl
            · simp only [z5, z0, Nat.reduceLT, decide_true, cond_true, ins]
              rfl)
         | (apply zh
            · simp only [z5, z0, Nat.reduceLT, decide_true, cond_true, ins]
              rfl))
      | ((first | apply zb | apply zc)
         · rfl
         · simp only [z5, z0, Nat.reduceLT, decide_true, cond_true, ins]
           rfl)
      | (apply za
         · simp only [go_sem, Nat.reduceEqDiff])
      | (apply z7
         · simp only [go_sem, Nat.reduceEqDiff])
      | (apply zg
         · kernel_rfl
         · kernel_rfl)
      | (simp only [bW, if_true, Nat.reduceEqDiff, if_false])
    exact h
  | cons e rest ih =>
    intro i out hd hi hob h
    have hlt : i < es.length := by
      rcases Nat.lt_or_ge i es.length with h | h
      · exact h
      · rw [List.drop_eq_nil_of_le h] at hd; cases hd
    have hm' : es[i]? = some e := by rw [← List.head?_drop, hd]; rfl
    have hlt' : (i : Int) < (es.length : Int) := by omega
    have hw3 : IntKind.i64.wrap ((i : Int) + 1) = ((i + 1 : Nat) : Int) := by rw [wrap_i64 (by omega) (by omega)]; omega
    have heb := hes e (List.mem_of_getElem? hm')
    simp only [foldF] at h
    refine zk ?_
    try dsimp only [lp110_3, zz, zo, Tryd.f110]
    simp only [bW, if_true, Nat.reduceEqDiff, if_false]
    repeat' first
      | (intro hb; first | cases hb | skip)
      | ((first | apply z8 | apply ze)
         · rfl
         · simp (disch := assumption) only [go_sem, Nat.reduceEqDiff, Nat.reduceAdd, bP, zf, Nat.reduceLeDiff, Nat.reduceLT, Nat.reduceMul, List.length_append, decide_eq_true_eq, z9, z6, Int.reduceToNat, Int.reduceLE, Int.reduceLT, Int.reduceBNe, Int.reduceBEq, List.length_map, hlt']
           rfl
         · simp only [go_sem, Nat.reduceLT, Nat.reduceEqDiff]
           rfl
         · rfl
         first
         | (apply zd
            · simp only [z5, z0, Nat.reduceLT, decide_true, cond_true, ins]
              rfl
            · simp only [z5, z0, Nat.reduceLT, decide_true, cond_true, ins]
              rfl)
         | (apply zh
            · simp only [z5, z0, Nat.reduceLT, decide_true, cond_true, ins]
              rfl))
      | ((first | apply zb | apply zc)
         · rfl
         · simp only [z5, z0, Nat.reduceLT, decide_true, cond_true, ins]
           rfl)
      | (apply za
         · simp only [go_sem, Nat.reduceEqDiff])
      | (apply z7
         · simp only [go_sem, Nat.reduceEqDiff])
      | (apply zg
         · kernel_rfl
         · kernel_rfl)
      | (simp only [bW, if_true, Nat.reduceEqDiff, if_false])
    refine zS (st1 := ⟨81, [(1, .sl false (es.map encY) 7 none), (2, .lref 0 0 50 0), (4, .lref 1 0 50 0), (5, .lref 2 0 50 0), (6, I (i : Nat)), (7, I (0 : Nat))], [(0, ⟨[.agg (cN c)], 50, false⟩), (1, ⟨[.agg zN], 50, false⟩), (2, ⟨[.agg (cN (out))], 50, false⟩)], 3, 0⟩) lk110_6 (by
      simp only [go_sem, List.map_append, Nat.reduceEqDiff, Nat.reduceLT, Nat.reduceAdd, bI, bD, bI2, cN_ids, cN_ren, zN_ids, zN_ren]
      try rfl) (L110_6 es c m i e _ _ hm1 hm hc heb hm' 5 0 out rfl hob ?_)
    have hob' := innerB hc heb 5 0 hob
    simp only [bW, if_true, Nat.reduceEqDiff, if_false]
    repeat' first
      | (intro hb; first | cases hb | skip)
      | ((first | apply z8 | apply ze)
         · rfl
         · simp (disch := assumption) only [go_sem, Nat.reduceEqDiff, Nat.reduceAdd, bP, zf, Nat.reduceLeDiff, Nat.reduceLT, Nat.reduceMul, List.length_append, decide_eq_true_eq, z9, z6, Int.reduceToNat, Int.reduceLE, Int.reduceLT, Int.reduceBNe, Int.reduceBEq, hw3]
           rfl
         · simp only [go_sem, Nat.reduceLT, Nat.reduceEqDiff]
           rfl
         · rfl
         first
         | (apply zd
            · simp only [z5, z0, Nat.reduceLT, decide_true, cond_true, ins]
              rfl
            · simp only [z5, z0, Nat.reduceLT, decide_true, cond_true, ins]
              rfl)
         | (apply zh
            · simp only [z5, z0, Nat.reduceLT, decide_true, cond_true, ins]
              rfl))
      | ((first | apply zb | apply zc)
         · rfl
         · simp only [z5, z0, Nat.reduceLT, decide_true, cond_true, ins]
           rfl)
      | (apply za
         · simp only [go_sem, Nat.reduceEqDiff])
      | (apply z7
         · simp only [go_sem, Nat.reduceEqDiff])
      | (apply zg
         · kernel_rfl
         · kernel_rfl)
      | (simp only [bW, if_true, Nat.reduceEqDiff, if_false])
    refine zu (st1 := ⟨81, [(1, .sl false (es.map encY) 7 none), (2, .lref 0 0 50 0), (4, .lref 1 0 50 0), (5, .lref 2 0 50 0), (6, I (i + 1 : Nat))], [(0, ⟨[.agg (cN c)], 50, false⟩), (1, ⟨[.agg zN], 50, false⟩), (2, ⟨[.agg (cN (innerF c e 5 0 out))], 50, false⟩)], 3, 0⟩) lk110_3 (by
      simp only [go_sem, List.map_append, Nat.reduceEqDiff, Nat.reduceLT, Nat.reduceAdd, bI, bD, bI2, cN_ids, cN_ren, zN_ids, zN_ren]
      try rfl) (ih (i + 1) _ (by rw [← List.drop_drop, hd]; rfl) hlt hob' h)

theorem t110 (es : List Edge) (c : NetF) (m : Int) (hm1 : 1 ≤ m) (hm : m ≤ 16000000000000) (hc : nB m c) (hes : ∀ e ∈ es, eB e) (hlen : es.length ≤ 1000) : (lim cfg).pure 110 [.agg (cN c), .sl false (es.map encY) 7 none] = some (.agg (cN (foldF c es c))) := by
  refine zm (zj 110) cfn110 rfl (n := 81) rfl ?_
  generalize hF : finP cfg Tryd.f110 = F
  simp only [bW, if_true, Nat.reduceEqDiff, if_false, zl]
  repeat' first
    | (intro hb; first | cases hb | skip)
    | ((first | apply z8 | apply ze)
       · rfl
       · simp (disch := assumption) only [go_sem, Nat.reduceEqDiff, Nat.reduceAdd, bP, zf, Nat.reduceLeDiff, Nat.reduceLT, Nat.reduceMul, List.length_append, decide_eq_true_eq, z9, z6, Int.reduceToNat, Int.reduceLE, Int.reduceLT, Int.reduceBNe, Int.reduceBEq, cN_len, cN_one, cN_take, zN_len, zN_one, zN_drop]
         rfl
       · simp only [go_sem, Nat.reduceLT, Nat.reduceEqDiff]
         rfl
       · rfl
       first
       | (apply zd
          · simp only [z5, z0, Nat.reduceLT, decide_true, cond_true, ins]
            rfl
          · simp only [z5, z0, Nat.reduceLT, decide_true, cond_true, ins]
            rfl)
       | (apply zh
          · simp only [z5, z0, Nat.reduceLT, decide_true, cond_true, ins]
            rfl))
    | ((first | apply zb | apply zc)
       · rfl
       · simp only [z5, z0, Nat.reduceLT, decide_true, cond_true, ins]
         rfl)
    | (apply za
       · simp only [go_sem, Nat.reduceEqDiff])
    | (apply z7
       · simp only [go_sem, Nat.reduceEqDiff])
    | (apply zg
       · kernel_rfl
       · kernel_rfl)
    | (simp only [bW, if_true, Nat.reduceEqDiff, if_false])
  refine zS (st1 := ⟨81, [(1, .sl false (es.map encY) 7 none), (2, .lref 0 0 50 0), (4, .lref 1 0 50 0), (5, .lref 2 0 50 0), (6, I (0 : Nat))], [(0, ⟨[.agg (cN c)], 50, false⟩), (1, ⟨[.agg zN], 50, false⟩), (2, ⟨[.agg (cN (c))], 50, false⟩)], 3, 0⟩) lk110_3 (by
    simp only [go_sem, List.map_append, Nat.reduceEqDiff, Nat.reduceLT, Nat.reduceAdd, bI, bD, bI2, cN_ids, cN_ren, zN_ids, zN_ren]
    try rfl) (L110_3 es c m _ _ hm1 hm hc hes hlen es 0 c rfl (Nat.zero_le _) (fun i j => entB_mono (hc i j) (by omega)) ?_)
  simp only [bW, if_true, Nat.reduceEqDiff, if_false]
  repeat' first
    | (intro hb; first | cases hb | skip)
    | ((first | apply z8 | apply ze)
       · rfl
       · simp (disch := assumption) only [go_sem, Nat.reduceEqDiff, Nat.reduceAdd, bP, zf, Nat.reduceLeDiff, Nat.reduceLT, Nat.reduceMul, List.length_append, decide_eq_true_eq, z9, z6, Int.reduceToNat, Int.reduceLE, Int.reduceLT, Int.reduceBNe, Int.reduceBEq, cN_len, cN_one, cN_take, zN_len, zN_one, zN_drop]
         rfl
       · simp only [go_sem, Nat.reduceLT, Nat.reduceEqDiff]
         rfl
       · rfl
       first
       | (apply zd
          · simp only [z5, z0, Nat.reduceLT, decide_true, cond_true, ins]
            rfl
          · simp only [z5, z0, Nat.reduceLT, decide_true, cond_true, ins]
            rfl)
       | (apply zh
          · simp only [z5, z0, Nat.reduceLT, decide_true, cond_true, ins]
            rfl))
    | ((first | apply zb | apply zc)
       · rfl
       · simp only [z5, z0, Nat.reduceLT, decide_true, cond_true, ins]
         rfl)
    | (apply za
       · simp only [go_sem, Nat.reduceEqDiff])
    | (apply z7
       · simp only [go_sem, Nat.reduceEqDiff])
    | (apply zg
       · kernel_rfl
       · kernel_rfl)
    | (simp only [bW, if_true, Nat.reduceEqDiff, if_false])
  subst hF
  simp only [go_sem, Nat.reduceEqDiff, bP, Nat.reduceAdd, Nat.reduceLeDiff, List.length_map, Tryd.f110, cN_len, cN_one, cN_take, zN_len, zN_one, zN_drop, cN_snap]

end Go.VS
namespace Go.VS
open Go Go.Proofs
set_option maxHeartbeats 0
set_option linter.unusedSimpArgs false

noncomputable def lp109_4 : Code := zz [1, 1, 1, 0, 1, 0, 0] (zo Tryd.f109)
theorem lk109_4 : cfg.keep 109 (zr lp109_4) = [1, 2, 5, 6, 7] := by kernel_rfl
noncomputable def lp109_11 : Code := zz [1, 1, 1, 1, 0, 1, 0, 0] (zo Tryd.f109)
theorem lk109_11 : cfg.keep 109 (zr lp109_11) = [1, 2, 5, 6, 9] := by kernel_rfl
noncomputable def lp109_18 : Code := zz [1, 1, 1, 1, 1, 0, 1, 0, 0] (zo Tryd.f109)
theorem lk109_18 : cfg.keep 109 (zr lp109_18) = [2, 5, 6, 11] := by kernel_rfl

theorem L109_4 {F : Exit → St → Option D} (p : Paper) (ax : Int) (k : List Kt) (x : D) (hwf : p.wf) (hok : zn p = true) : ∀ (rest : List Mark) (i : Nat) (es : List Edge), p.marks.drop i = rest → i ≤ p.marks.length → es.length + 2 * rest.length ≤ 1000 →
    (zB cfg (lim cfg) 109 F k (.exit 0) ⟨149, [(18, B false), (17, I p.marks.length), (16, .sl p.nm (p.marks.map encM) (zs p.nm 5) none), (15, .lref 0 0 3 1), (14, I (p.marks.length : Nat)), (1, I ax), (2, .lref 0 0 3 0), (5, I p.sheets), (6, gD 1 7 (es ++ (marksE ax rest i).map (refOf p.sheets))), (7, I (p.marks.length : Nat))], (0, ⟨[zt p], 3, false⟩) :: gO 1 7 encY (es ++ (marksE ax rest i).map (refOf p.sheets)), gN 1 (es ++ (marksE ax rest i).map (refOf p.sheets)), 0⟩ = some x) →
    EvL cfg (lim cfg) 109 F lp109_4 k ⟨149, [(1, I ax), (2, .lref 0 0 3 0), (5, I p.sheets), (6, gD 1 7 (es)), (7, I (i : Nat))], (0, ⟨[zt p], 3, false⟩) :: gO 1 7 encY (es), gN 1 (es), 0⟩ = some x := by
  have hlm := len_if (f := encM) hwf.1
  obtain ⟨o1, o2, -, -, o5, o6⟩ := zC hok
  intro rest
  induction rest with
  | nil =>
    intro i es hd hi he h
    have hi' : i = p.marks.length := by
      have := List.drop_eq_nil_iff.1 hd
      omega
    subst hi'
    simp only [marksE, List.map_nil, List.append_nil] at h
    refine zk ?_
    try dsimp only [lp109_4, zz, zo, Tryd.f109]
    simp only [bW, if_true, Nat.reduceEqDiff, if_false]
    repeat' first
      | (intro hb; first | cases hb | skip)
      | ((first | apply z8 | apply ze)
         · rfl
         · simp (disch := assumption) only [go_sem, Nat.reduceEqDiff, Nat.reduceAdd, bP, zf, Nat.reduceLeDiff, Nat.reduceLT, Nat.reduceMul, List.length_append, decide_eq_true_eq, z9, z6, Int.reduceToNat, Int.reduceLE, Int.reduceLT, Int.reduceBNe, Int.reduceBEq, hlm, Int.lt_irrefl]
           rfl
         · simp only [go_sem, Nat.reduceLT, Nat.reduceEqDiff]
           rfl
         · rfl
         first
         | (apply zd
            · simp only [z5, z0, Nat.reduceLT, decide_true, cond_true, ins]
              rfl
            · simp only [z5, z0, Nat.reduceLT, decide_true, cond_true, ins]
              rfl)
         | (apply zh
            · simp only [z5, z0, Nat.reduceLT, decide_true, cond_true, ins]
              rfl))
      | ((first | apply zb | apply zc)
         · rfl
         · simp only [z5, z0, Nat.reduceLT, decide_true, cond_true, ins]
           rfl)
      | (apply za
         · simp only [go_sem, Nat.reduceEqDiff])
      | (apply z7
         · simp only [go_sem, Nat.reduceEqDiff])
      | (apply zg
         · kernel_rfl
         · kernel_rfl)
      | (simp only [bW, if_true, Nat.reduceEqDiff, if_false])
    exact h
  | cons m rest ih =>
    intro i es hd hi he h
    have hlt : i < p.marks.length := by
      rcases Nat.lt_or_ge i p.marks.length with h | h
      · exact h
      · rw [List.drop_eq_nil_of_le h] at hd; cases hd
    have hm : p.marks[i]? = some m := by rw [← List.head?_drop, hd]; rfl
    have hx : (p.marks.map encM)[i]? = some (.agg [I m.sheet, I m.axis, I m.tru, I m.seen, I m.err]) := by rw [List.getElem?_map, hm]; rfl
    have hnm' : p.nm = false := by
      cases h : p.nm with
      | false => rfl
      | true => rw [hwf.1 h] at hlt; cases hlt
    have hlt' : (i : Int) < (p.marks.length : Int) := by omega
    have hlen := hwf.2.2.1
    have hw3 : IntKind.i64.wrap ((i : Int) + 1) = ((i + 1 : Nat) : Int) := by rw [wrap_i64 (by omega) (by omega)]; omega
    have hok' := o5 m (List.mem_of_getElem? hm)
    simp [markOK, zw, isAxis, isSeen] at hok'
    have hs2 : IntKind.i64.wrap (m.seen + m.err) = m.seen + m.err := wrap_i64 (by omega) (by omega)
    have hs3 : IntKind.i64.wrap (m.seen - m.err) = m.seen - m.err := wrap_i64 (by omega) (by omega)
    have e1 := t74 (m.seen + m.err) m.tru (by omega) (by omega) (by omega) (by omega)
    have e2 := t74 m.tru (m.seen - m.err) (by omega) (by omega) (by omega) (by omega)
    have hr1 : (1 + m.sheet = 0) = False := by simp; omega
    have hr2 : 1 + m.sheet - 1 = m.sheet := by omega
    have hlm' : ((p.marks.map encM).length : Int) = (p.marks.length : Int) := by simp
    cases es with
    | nil =>
      rw [List.nil_append] at h
      simp only [gD, gO, gN]
      by_cases hax : m.axis = ax
      · have hax1 : (m.axis == ax) = true := by simp [hax]
        refine zk ?_
        try dsimp only [lp109_4, zz, zo, Tryd.f109]
        simp only [bW, if_true, Nat.reduceEqDiff, if_false]
        repeat' first
          | (intro hb; first | cases hb | skip)
          | ((first | apply z8 | apply ze)
             · rfl
             · simp (disch := assumption) only [go_sem, Nat.reduceEqDiff, Nat.reduceAdd, bP, zf, Nat.reduceLeDiff, Nat.reduceLT, Nat.reduceMul, List.length_append, decide_eq_true_eq, z9, z6, Int.reduceToNat, Int.reduceLE, Int.reduceLT, Int.reduceBNe, Int.reduceBEq, hlm', List.length_map, hx, hnm', hlt', hw3, hax1, Nat.zero_lt_succ, hs2, hs3, e1, e2]
               rfl
             · simp only [go_sem, Nat.reduceLT, Nat.reduceEqDiff]
               rfl
             · rfl
             first
             | (apply zd
                · simp only [z5, z0, Nat.reduceLT, decide_true, cond_true, ins]
                  rfl
                · simp only [z5, z0, Nat.reduceLT, decide_true, cond_true, ins]
                  rfl)
             | (apply zh
                · simp only [z5, z0, Nat.reduceLT, decide_true, cond_true, ins]
                  rfl))
          | ((first | apply zb | apply zc)
             · rfl
             · simp only [z5, z0, Nat.reduceLT, decide_true, cond_true, ins]
               rfl)
          | (apply za
             · simp only [go_sem, Nat.reduceEqDiff])
          | (apply z7
             · simp only [go_sem, Nat.reduceEqDiff])
          | (apply zg
             · kernel_rfl
             · kernel_rfl)
          | (simp only [bW, if_true, Nat.reduceEqDiff, if_false])
        refine zu (st1 := ⟨149, [(1, I ax), (2, .lref 0 0 3 0), (5, I p.sheets), (6, gD 1 7 (([]) ++ (markE m i).map (refOf p.sheets))), (7, I (i + 1 : Nat))], (0, ⟨[zt p], 3, false⟩) :: gO 1 7 encY (([]) ++ (markE m i).map (refOf p.sheets)), gN 1 (([]) ++ (markE m i).map (refOf p.sheets)), 0⟩) lk109_4 (by
          simp only [go_sem, List.map_append, Nat.reduceEqDiff, Nat.reduceLT, Nat.reduceAdd, bI, bD, bI2, okY.renL, okY.idsL, okY.idsL_app, gD, gO, gN, zt, encY, markE, refOf, List.length_append, List.append_assoc, hr1, hr2]
          try rfl) (ih (i + 1) (([]) ++ (markE m i).map (refOf p.sheets)) (by rw [← List.drop_drop, hd]; rfl) hlt (by simp [markE] at he ⊢; omega) (by simp only [marksE, hax, if_true, if_false] at h; simpa using h))
      · have hax0 : (m.axis == ax) = false := by simp [hax]
        refine zk ?_
        try dsimp only [lp109_4, zz, zo, Tryd.f109]
        simp only [bW, if_true, Nat.reduceEqDiff, if_false]
        repeat' first
          | (intro hb; first | cases hb | skip)
          | ((first | apply z8 | apply ze)
             · rfl
             · simp (disch := assumption) only [go_sem, Nat.reduceEqDiff, Nat.reduceAdd, bP, zf, Nat.reduceLeDiff, Nat.reduceLT, Nat.reduceMul, List.length_append, decide_eq_true_eq, z9, z6, Int.reduceToNat, Int.reduceLE, Int.reduceLT, Int.reduceBNe, Int.reduceBEq, hlm', List.length_map, hx, hnm', hlt', hw3, hax0, Nat.zero_lt_succ, hs2, hs3, e1, e2]
               rfl
             · simp only [go_sem, Nat.reduceLT, Nat.reduceEqDiff]
               rfl
             · rfl
             first
             | (apply zd
                · simp only [z5, z0, Nat.reduceLT, decide_true, cond_true, ins]
                  rfl
                · simp only [z5, z0, Nat.reduceLT, decide_true, cond_true, ins]
                  rfl)
             | (apply zh
                · simp only [z5, z0, Nat.reduceLT, decide_true, cond_true, ins]
                  rfl))
          | ((first | apply zb | apply zc)
             · rfl
             · simp only [z5, z0, Nat.reduceLT, decide_true, cond_true, ins]
               rfl)
          | (apply za
             · simp only [go_sem, Nat.reduceEqDiff])
          | (apply z7
             · simp only [go_sem, Nat.reduceEqDiff])
          | (apply zg
             · kernel_rfl
             · kernel_rfl)
          | (simp only [bW, if_true, Nat.reduceEqDiff, if_false])
        refine zu (st1 := ⟨149, [(1, I ax), (2, .lref 0 0 3 0), (5, I p.sheets), (6, gD 1 7 ([])), (7, I (i + 1 : Nat))], (0, ⟨[zt p], 3, false⟩) :: gO 1 7 encY ([]), gN 1 ([]), 0⟩) lk109_4 (by
          simp only [go_sem, List.map_append, Nat.reduceEqDiff, Nat.reduceLT, Nat.reduceAdd, bI, bD, bI2, okY.renL, okY.idsL, okY.idsL_app, gD, gO, gN, zt, encY, markE, refOf, List.length_append, List.append_assoc, hr1, hr2]
          try rfl) (ih (i + 1) ([]) (by rw [← List.drop_drop, hd]; rfl) hlt (by simp [markE] at he ⊢; omega) (by simp only [marksE, hax, if_true, if_false] at h; exact h))
    | cons e r =>
      simp only [List.length_cons] at he
      have hle : (r.length + 1 + 1 ≤ r.length + 1) = False := by simp
      have hb1 : ((r.length + 1 + 1) * 56 ≤ big) = True := by simp [big]; omega
      have hb2 : (r.length + 1 + 1 ≤ big) = True := by simp [big]; omega
      have hle2 : (r.length + 1 + 1 + 1 ≤ r.length + 1 + 1) = False := by simp
      have hb12 : ((r.length + 1 + 1 + 1) * 56 ≤ big) = True := by simp [big]; omega
      have hb22 : (r.length + 1 + 1 + 1 ≤ big) = True := by simp [big]; omega
      have hao : allOk 7 (encY e :: List.map encY r) = true := okY.allOk (e :: r)
      have hao2 : ∀ d, allOk 7 (encY e :: (List.map encY r ++ [d])) = (d.okCells && (decide (d.cells.length = 7) && true)) := by
        intro d
        rw [← List.cons_append, ← List.map_cons, allOk_append, okY.allOk (e :: r)]
        simp [allOk]
      simp only [gD, gO, gN, List.map_cons]
      by_cases hax : m.axis = ax
      · have hax1 : (m.axis == ax) = true := by simp [hax]
        refine zk ?_
        try dsimp only [lp109_4, zz, zo, Tryd.f109]
        simp only [bW, if_true, Nat.reduceEqDiff, if_false]
        repeat' first
          | (intro hb; first | cases hb | skip)
          | ((first | apply z8 | apply ze)
             · rfl
             · simp (disch := assumption) only [go_sem, Nat.reduceEqDiff, Nat.reduceAdd, bP, zf, Nat.reduceLeDiff, Nat.reduceLT, Nat.reduceMul, List.length_append, decide_eq_true_eq, z9, z6, Int.reduceToNat, Int.reduceLE, Int.reduceLT, Int.reduceBNe, Int.reduceBEq, hlm', List.length_map, hx, hnm', hlt', hw3, hax1, Nat.zero_lt_succ, hs2, hs3, e1, e2, hle, hb1, hb2, hao, hle2, hb12, hb22, hao2, okY.allOk]
               rfl
             · simp only [go_sem, Nat.reduceLT, Nat.reduceEqDiff]
               rfl
             · rfl
             first
             | (apply zd
                · simp only [z5, z0, Nat.reduceLT, decide_true, cond_true, ins]
                  rfl
                · simp only [z5, z0, Nat.reduceLT, decide_true, cond_true, ins]
                  rfl)
             | (apply zh
                · simp only [z5, z0, Nat.reduceLT, decide_true, cond_true, ins]
                  rfl))
          | ((first | apply zb | apply zc)
             · rfl
             · simp only [z5, z0, Nat.reduceLT, decide_true, cond_true, ins]
               rfl)
          | (apply za
             · simp only [go_sem, Nat.reduceEqDiff])
          | (apply z7
             · simp only [go_sem, Nat.reduceEqDiff])
          | (apply zg
             · kernel_rfl
             · kernel_rfl)
          | (simp only [bW, if_true, Nat.reduceEqDiff, if_false])
        refine zu (st1 := ⟨149, [(1, I ax), (2, .lref 0 0 3 0), (5, I p.sheets), (6, gD 1 7 ((e :: r) ++ (markE m i).map (refOf p.sheets))), (7, I (i + 1 : Nat))], (0, ⟨[zt p], 3, false⟩) :: gO 1 7 encY ((e :: r) ++ (markE m i).map (refOf p.sheets)), gN 1 ((e :: r) ++ (markE m i).map (refOf p.sheets)), 0⟩) lk109_4 (by
          simp only [go_sem, List.map_append, Nat.reduceEqDiff, Nat.reduceLT, Nat.reduceAdd, bI, bD, bI2, okY.renL, okY.idsL, okY.idsL_app, gD, gO, gN, zt, encY, markE, refOf, List.length_append, List.append_assoc, hr1, hr2]
          try rfl) (ih (i + 1) ((e :: r) ++ (markE m i).map (refOf p.sheets)) (by rw [← List.drop_drop, hd]; rfl) hlt (by simp [markE] at he ⊢; omega) (by simp only [marksE, hax, if_true, if_false] at h; simpa using h))
      · have hax0 : (m.axis == ax) = false := by simp [hax]
        refine zk ?_
        try dsimp only [lp109_4, zz, zo, Tryd.f109]
        simp only [bW, if_true, Nat.reduceEqDiff, if_false]
        repeat' first
          | (intro hb; first | cases hb | skip)
          | ((first | apply z8 | apply ze)
             · rfl
             · simp (disch := assumption) only [go_sem, Nat.reduceEqDiff, Nat.reduceAdd, bP, zf, Nat.reduceLeDiff, Nat.reduceLT, Nat.reduceMul, List.length_append, decide_eq_true_eq, z9, z6, Int.reduceToNat, Int.reduceLE, Int.reduceLT, Int.reduceBNe, Int.reduceBEq, hlm', List.length_map, hx, hnm', hlt', hw3, hax0, Nat.zero_lt_succ, hs2, hs3, e1, e2, hle, hb1, hb2, hao, hle2, hb12, hb22, hao2, okY.allOk]
               rfl
             · simp only [go_sem, Nat.reduceLT, Nat.reduceEqDiff]
               rfl
             · rfl
             first
             | (apply zd
                · simp only [z5, z0, Nat.reduceLT, decide_true, cond_true, ins]
                  rfl
                · simp only [z5, z0, Nat.reduceLT, decide_true, cond_true, ins]
                  rfl)
             | (apply zh
                · simp only [z5, z0, Nat.reduceLT, decide_true, cond_true, ins]
                  rfl))
          | ((first | apply zb | apply zc)
             · rfl
             · simp only [z5, z0, Nat.reduceLT, decide_true, cond_true, ins]
               rfl)
          | (apply za
             · simp only [go_sem, Nat.reduceEqDiff])
          | (apply z7
             · simp only [go_sem, Nat.reduceEqDiff])
          | (apply zg
             · kernel_rfl
             · kernel_rfl)
          | (simp only [bW, if_true, Nat.reduceEqDiff, if_false])
        refine zu (st1 := ⟨149, [(1, I ax), (2, .lref 0 0 3 0), (5, I p.sheets), (6, gD 1 7 (e :: r)), (7, I (i + 1 : Nat))], (0, ⟨[zt p], 3, false⟩) :: gO 1 7 encY (e :: r), gN 1 (e :: r), 0⟩) lk109_4 (by
          simp only [go_sem, List.map_append, Nat.reduceEqDiff, Nat.reduceLT, Nat.reduceAdd, bI, bD, bI2, okY.renL, okY.idsL, okY.idsL_app, gD, gO, gN, zt, encY, markE, refOf, List.length_append, List.append_assoc, hr1, hr2]
          try rfl) (ih (i + 1) (e :: r) (by rw [← List.drop_drop, hd]; rfl) hlt (by simp [markE] at he ⊢; omega) (by simp only [marksE, hax, if_true, if_false] at h; exact h))

theorem L109_11 {F : Exit → St → Option D} (p : Paper) (ax : Int) (k : List Kt) (x : D) (hwf : p.wf) (hok : zn p = true) : ∀ (rest : List Join) (i : Nat) (es : List Edge), p.joins.drop i = rest → i ≤ p.joins.length → es.length + 2 * rest.length ≤ 1000 →
    (zB cfg (lim cfg) 109 F k (.exit 2) ⟨149, [(68, B false), (67, I p.joins.length), (66, .sl p.nj (p.joins.map encJ) (zs p.nj 7) none), (65, .lref 0 0 3 2), (64, I (p.joins.length : Nat)), (1, I ax), (2, .lref 0 0 3 0), (5, I p.sheets), (6, gD 1 7 (es ++ (joinsE ax rest i).map (refOf p.sheets))), (9, I (p.joins.length : Nat))], (0, ⟨[zt p], 3, false⟩) :: gO 1 7 encY (es ++ (joinsE ax rest i).map (refOf p.sheets)), gN 1 (es ++ (joinsE ax rest i).map (refOf p.sheets)), 0⟩ = some x) →
    EvL cfg (lim cfg) 109 F lp109_11 k ⟨149, [(1, I ax), (2, .lref 0 0 3 0), (5, I p.sheets), (6, gD 1 7 (es)), (9, I (i : Nat))], (0, ⟨[zt p], 3, false⟩) :: gO 1 7 encY (es), gN 1 (es), 0⟩ = some x := by
  have hlm := len_if (f := encJ) hwf.2.1
  obtain ⟨o1, o2, -, -, o5, o6⟩ := zC hok
  intro rest
  induction rest with
  | nil =>
    intro i es hd hi he h
    have hi' : i = p.joins.length := by
      have := List.drop_eq_nil_iff.1 hd
      omega
    subst hi'
    simp only [joinsE, List.map_nil, List.append_nil] at h
    refine zk ?_
    try dsimp only [lp109_11, zz, zo, Tryd.f109]
    simp only [bW, if_true, Nat.reduceEqDiff, if_false]
    repeat' first
      | (intro hb; first | cases hb | skip)
      | ((first | apply z8 | apply ze)
         · rfl
         · simp (disch := assumption) only [go_sem, Nat.reduceEqDiff, Nat.reduceAdd, bP, zf, Nat.reduceLeDiff, Nat.reduceLT, Nat.reduceMul, List.length_append, decide_eq_true_eq, z9, z6, Int.reduceToNat, Int.reduceLE, Int.reduceLT, Int.reduceBNe, Int.reduceBEq, hlm, Int.lt_irrefl]
           rfl
         · simp only [go_sem, Nat.reduceLT, Nat.reduceEqDiff]
           rfl
         · rfl
         first
         | (apply zd
            · simp only [z5, z0, Nat.reduceLT, decide_true, cond_true, ins]
              rfl
            · simp only [z5, z0, Nat.reduceLT, decide_true, cond_true, ins]
              rfl)
         | (apply zh
            · simp only [z5, z0, Nat.reduceLT, decide_true, cond_true, ins]
              rfl))
      | ((first | apply zb | apply zc)
         · rfl
         · simp only [z5, z0, Nat.reduceLT, decide_true, cond_true, ins]
           rfl)
      | (apply za
         · simp only [go_sem, Nat.reduceEqDiff])
      | (apply z7
         · simp only [go_sem, Nat.reduceEqDiff])
      | (apply zg
         · kernel_rfl
         · kernel_rfl)
      | (simp only [bW, if_true, Nat.reduceEqDiff, if_false])
    exact h
  | cons m rest ih =>
    intro i es hd hi he h
    have hlt : i < p.joins.length := by
      rcases Nat.lt_or_ge i p.joins.length with h | h
      · exact h
      · rw [List.drop_eq_nil_of_le h] at hd; cases hd
    have hm : p.joins[i]? = some m := by rw [← List.head?_drop, hd]; rfl
    have hx : (p.joins.map encJ)[i]? = some (.agg [I m.a, I m.b, I m.axis, I m.seenA, I m.errA, I m.seenB, I m.errB]) := by rw [List.getElem?_map, hm]; rfl
    have hnm' : p.nj = false := by
      cases h : p.nj with
      | false => rfl
      | true => rw [hwf.2.1 h] at hlt; cases hlt
    have hlt' : (i : Int) < (p.joins.length : Int) := by omega
    have hlen := hwf.2.2.2
    have hw3 : IntKind.i64.wrap ((i : Int) + 1) = ((i + 1 : Nat) : Int) := by rw [wrap_i64 (by omega) (by omega)]; omega
    have hok' := o6 m (List.mem_of_getElem? hm)
    simp [joinOK, zw, isAxis, isSeen] at hok'
    have hs2 : IntKind.i64.wrap (m.seenA + m.errA) = m.seenA + m.errA := wrap_i64 (by omega) (by omega)
    have hs3 : IntKind.i64.wrap (m.seenB - m.errB) = m.seenB - m.errB := wrap_i64 (by omega) (by omega)
    have hs4 : IntKind.i64.wrap (m.seenB + m.errB) = m.seenB + m.errB := wrap_i64 (by omega) (by omega)
    have hs5 : IntKind.i64.wrap (m.seenA - m.errA) = m.seenA - m.errA := wrap_i64 (by omega) (by omega)
    have e1 := t74 (m.seenA + m.errA) (m.seenB - m.errB) (by omega) (by omega) (by omega) (by omega)
    have e2 := t74 (m.seenB + m.errB) (m.seenA - m.errA) (by omega) (by omega) (by omega) (by omega)
    have hr1 : (1 + m.a = 0) = False := by simp; omega
    have hr2 : 1 + m.a - 1 = m.a := by omega
    have hr3 : (1 + m.b = 0) = False := by simp; omega
    have hr4 : 1 + m.b - 1 = m.b := by omega
    have hlm' : ((p.joins.map encJ).length : Int) = (p.joins.length : Int) := by simp
    cases es with
    | nil =>
      rw [List.nil_append] at h
      simp only [gD, gO, gN]
      by_cases hax : m.axis = ax
      · have hax1 : (m.axis == ax) = true := by simp [hax]
        refine zk ?_
        try dsimp only [lp109_11, zz, zo, Tryd.f109]
        simp only [bW, if_true, Nat.reduceEqDiff, if_false]
        repeat' first
          | (intro hb; first | cases hb | skip)
          | ((first | apply z8 | apply ze)
             · rfl
             · simp (disch := assumption) only [go_sem, Nat.reduceEqDiff, Nat.reduceAdd, bP, zf, Nat.reduceLeDiff, Nat.reduceLT, Nat.reduceMul, List.length_append, decide_eq_true_eq, z9, z6, Int.reduceToNat, Int.reduceLE, Int.reduceLT, Int.reduceBNe, Int.reduceBEq, hlm', List.length_map, hx, hnm', hlt', hw3, hax1, Nat.zero_lt_succ, hs2, hs3, hs4, hs5, e1, e2]
               rfl
             · simp only [go_sem, Nat.reduceLT, Nat.reduceEqDiff]
               rfl
             · rfl
             first
             | (apply zd
                · simp only [z5, z0, Nat.reduceLT, decide_true, cond_true, ins]
                  rfl
                · simp only [z5, z0, Nat.reduceLT, decide_true, cond_true, ins]
                  rfl)
             | (apply zh
                · simp only [z5, z0, Nat.reduceLT, decide_true, cond_true, ins]
                  rfl))
          | ((first | apply zb | apply zc)
             · rfl
             · simp only [z5, z0, Nat.reduceLT, decide_true, cond_true, ins]
               rfl)
          | (apply za
             · simp only [go_sem, Nat.reduceEqDiff])
          | (apply z7
             · simp only [go_sem, Nat.reduceEqDiff])
          | (apply zg
             · kernel_rfl
             · kernel_rfl)
          | (simp only [bW, if_true, Nat.reduceEqDiff, if_false])
        refine zu (st1 := ⟨149, [(1, I ax), (2, .lref 0 0 3 0), (5, I p.sheets), (6, gD 1 7 (([]) ++ (joinE m i).map (refOf p.sheets))), (9, I (i + 1 : Nat))], (0, ⟨[zt p], 3, false⟩) :: gO 1 7 encY (([]) ++ (joinE m i).map (refOf p.sheets)), gN 1 (([]) ++ (joinE m i).map (refOf p.sheets)), 0⟩) lk109_11 (by
          simp only [go_sem, List.map_append, Nat.reduceEqDiff, Nat.reduceLT, Nat.reduceAdd, bI, bD, bI2, okY.renL, okY.idsL, okY.idsL_app, gD, gO, gN, zt, encY, joinE, refOf, List.length_append, List.append_assoc, hr1, hr2, hr3, hr4]
          try rfl) (ih (i + 1) (([]) ++ (joinE m i).map (refOf p.sheets)) (by rw [← List.drop_drop, hd]; rfl) hlt (by simp [joinE] at he ⊢; omega) (by simp only [joinsE, hax, if_true, if_false] at h; simpa using h))
      · have hax0 : (m.axis == ax) = false := by simp [hax]
        refine zk ?_
        try dsimp only [lp109_11, zz, zo, Tryd.f109]
        simp only [bW, if_true, Nat.reduceEqDiff, if_false]
        repeat' first
          | (intro hb; first | cases hb | skip)
          | ((first | apply z8 | apply ze)
             · rfl
             · simp (disch := assumption) only [go_sem, Nat.reduceEqDiff, Nat.reduceAdd, bP, zf, Nat.reduceLeDiff, Nat.reduceLT, Nat.reduceMul, List.length_append, decide_eq_true_eq, z9, z6, Int.reduceToNat, Int.reduceLE, Int.reduceLT, Int.reduceBNe, Int.reduceBEq, hlm', List.length_map, hx, hnm', hlt', hw3, hax0, Nat.zero_lt_succ, hs2, hs3, hs4, hs5, e1, e2]
               rfl
             · simp only [go_sem, Nat.reduceLT, Nat.reduceEqDiff]
               rfl
             · rfl
             first
             | (apply zd
                · simp only [z5, z0, Nat.reduceLT, decide_true, cond_true, ins]
                  rfl
                · simp only [z5, z0, Nat.reduceLT, decide_true, cond_true, ins]
                  rfl)
             | (apply zh
                · simp only [z5, z0, Nat.reduceLT, decide_true, cond_true, ins]
                  rfl))
          | ((first | apply zb | apply zc)
             · rfl
             · simp only [z5, z0, Nat.reduceLT, decide_true, cond_true, ins]
               rfl)
          | (apply za
             · simp only [go_sem, Nat.reduceEqDiff])
          | (apply z7
             · simp only [go_sem, Nat.reduceEqDiff])
          | (apply zg
             · kernel_rfl
             · kernel_rfl)
          | (simp only [bW, if_true, Nat.reduceEqDiff, if_false])
        refine zu (st1 := ⟨149, [(1, I ax), (2, .lref 0 0 3 0), (5, I p.sheets), (6, gD 1 7 ([])), (9, I (i + 1 : Nat))], (0, ⟨[zt p], 3, false⟩) :: gO 1 7 encY ([]), gN 1 ([]), 0⟩) lk109_11 (by
          simp only [go_sem, List.map_append, Nat.reduceEqDiff, Nat.reduceLT, Nat.reduceAdd, bI, bD, bI2, okY.renL, okY.idsL, okY.idsL_app, gD, gO, gN, zt, encY, joinE, refOf, List.length_append, List.append_assoc, hr1, hr2, hr3, hr4]
          try rfl) (ih (i + 1) ([]) (by rw [← List.drop_drop, hd]; rfl) hlt (by simp [joinE] at he ⊢; omega) (by simp only [joinsE, hax, if_true, if_false] at h; exact h))
    | cons e r =>
      simp only [List.length_cons] at he
      have hle : (r.length + 1 + 1 ≤ r.length + 1) = False := by simp
      have hb1 : ((r.length + 1 + 1) * 56 ≤ big) = True := by simp [big]; omega
      have hb2 : (r.length + 1 + 1 ≤ big) = True := by simp [big]; omega
      have hle2 : (r.length + 1 + 1 + 1 ≤ r.length + 1 + 1) = False := by simp
      have hb12 : ((r.length + 1 + 1 + 1) * 56 ≤ big) = True := by simp [big]; omega
      have hb22 : (r.length + 1 + 1 + 1 ≤ big) = True := by simp [big]; omega
      have hao : allOk 7 (encY e :: List.map encY r) = true := okY.allOk (e :: r)
      have hao2 : ∀ d, allOk 7 (encY e :: (List.map encY r ++ [d])) = (d.okCells && (decide (d.cells.length = 7) && true)) := by
        intro d
        rw [← List.cons_append, ← List.map_cons, allOk_append, okY.allOk (e :: r)]
        simp [allOk]
      simp only [gD, gO, gN, List.map_cons]
      by_cases hax : m.axis = ax
      · have hax1 : (m.axis == ax) = true := by simp [hax]
        refine zk ?_
        try dsimp only [lp109_11, zz, zo, Tryd.f109]
        simp only [bW, if_true, Nat.reduceEqDiff, if_false]
        repeat' first
          | (intro hb; first | cases hb | skip)
          | ((first | apply z8 | apply ze)
             · rfl
             · simp (disch := assumption) only [go_sem, Nat.reduceEqDiff, Nat.reduceAdd, bP, zf, Nat.reduceLeDiff, Nat.reduceLT, Nat.reduceMul, List.length_append, decide_eq_true_eq, z9, z6, Int.reduceToNat, Int.reduceLE, Int.reduceLT, Int.reduceBNe, Int.reduceBEq, hlm', List.length_map, hx, hnm', hlt', hw3, hax1, Nat.zero_lt_succ, hs2, hs3, hs4, hs5, e1, e2, hle, hb1, hb2, hao, hle2, hb12, hb22, hao2, okY.allOk]
               rfl
             · simp only [go_sem, Nat.reduceLT, Nat.reduceEqDiff]
               rfl
             · rfl
             first
             | (apply zd
                · simp only [z5, z0, Nat.reduceLT, decide_true, cond_true, ins]
                  rfl
                · simp only [z5, z0, Nat.reduceLT, decide_true, cond_true, ins]
                  rfl)
             | (apply zh
                · simp only [z5, z0, Nat.reduceLT, decide_true, cond_true, ins]
                  rfl))
          | ((first | apply zb | apply zc)
             · rfl
             · simp only [z5, z0, Nat.reduceLT, decide_true, cond_true, ins]
               rfl)
          | (apply za
             · simp only [go_sem, Nat.reduceEqDiff])
          | (apply z7
             · simp only [go_sem, Nat.reduceEqDiff])
          | (apply zg
             · kernel_rfl
             · kernel_rfl)
          | (simp only [bW, if_true, Nat.reduceEqDiff, if_false])
        refine zu (st1 := ⟨149, [(1, I ax), (2, .lref 0 0 3 0), (5, I p.sheets), (6, gD 1 7 ((e :: r) ++ (joinE m i).map (refOf p.sheets))), (9, I (i + 1 : Nat))], (0, ⟨[zt p], 3, false⟩) :: gO 1 7 encY ((e :: r) ++ (joinE m i).map (refOf p.sheets)), gN 1 ((e :: r) ++ (joinE m i).map (refOf p.sheets)), 0⟩) lk109_11 (by
          simp only [go_sem, List.map_append, Nat.reduceEqDiff, Nat.reduceLT, Nat.reduceAdd, bI, bD, bI2, okY.renL, okY.idsL, okY.idsL_app, gD, gO, gN, zt, encY, joinE, refOf, List.length_append, List.append_assoc, hr1, hr2, hr3, hr4]
          try rfl) (ih (i + 1) ((e :: r) ++ (joinE m i).map (refOf p.sheets)) (by rw [← List.drop_drop, hd]; rfl) hlt (by simp [joinE] at he ⊢; omega) (by simp only [joinsE, hax, if_true, if_false] at h; simpa using h))
      · have hax0 : (m.axis == ax) = false := by simp [hax]
        refine zk ?_
        try dsimp only [lp109_11, zz, zo, Tryd.f109]
        simp only [bW, if_true, Nat.reduceEqDiff, if_false]
        repeat' first
          | (intro hb; first | cases hb | skip)
          | ((first | apply z8 | apply ze)
             · rfl
             · simp (disch := assumption) only [go_sem, Nat.reduceEqDiff, Nat.reduceAdd, bP, zf, Nat.reduceLeDiff, Nat.reduceLT, Nat.reduceMul, List.length_append, decide_eq_true_eq, z9, z6, Int.reduceToNat, Int.reduceLE, Int.reduceLT, Int.reduceBNe, Int.reduceBEq, hlm', List.length_map, hx, hnm', hlt', hw3, hax0, Nat.zero_lt_succ, hs2, hs3, hs4, hs5, e1, e2, hle, hb1, hb2, hao, hle2, hb12, hb22, hao2, okY.allOk]
               rfl
             · simp only [go_sem, Nat.reduceLT, Nat.reduceEqDiff]
               rfl
             · rfl
             first
             | (apply zd
                · simp only [z5, z0, Nat.reduceLT, decide_true, cond_true, ins]
                  rfl
                · simp only [z5, z0, Nat.reduceLT, decide_true, cond_true, ins]
                  rfl)
             | (apply zh
                · simp only [z5, z0, Nat.reduceLT, decide_true, cond_true, ins]
                  rfl))
          | ((first | apply zb | apply zc)
             · rfl
             · simp only [z5, z0, Nat.reduceLT, decide_true, cond_true, ins]
               rfl)
          | (apply za
             · simp only [go_sem, Nat.reduceEqDiff])
          | (apply z7
             · simp only [go_sem, Nat.reduceEqDiff])
          | (apply zg
             · kernel_rfl
             · kernel_rfl)
          | (simp only [bW, if_true, Nat.reduceEqDiff, if_false])
        refine zu (st1 := ⟨149, [(1, I ax), (2, .lref 0 0 3 0), (5, I p.sheets), (6, gD 1 7 (e :: r)), (9, I (i + 1 : Nat))], (0, ⟨[zt p], 3, false⟩) :: gO 1 7 encY (e :: r), gN 1 (e :: r), 0⟩) lk109_11 (by
          simp only [go_sem, List.map_append, Nat.reduceEqDiff, Nat.reduceLT, Nat.reduceAdd, bI, bD, bI2, okY.renL, okY.idsL, okY.idsL_app, gD, gO, gN, zt, encY, joinE, refOf, List.length_append, List.append_assoc, hr1, hr2, hr3, hr4]
          try rfl) (ih (i + 1) (e :: r) (by rw [← List.drop_drop, hd]; rfl) hlt (by simp [joinE] at he ⊢; omega) (by simp only [joinsE, hax, if_true, if_false] at h; exact h))

theorem L109_18 {F : Exit → St → Option D} (p : Paper) (k : List Kt) (x : D) (hok : zn p = true) : ∀ (m i : Nat) (es : List Edge), (i : Int) + m = p.sheets → es.length + 2 * m ≤ 1000 →
    (zB cfg (lim cfg) 109 F k (.exit 4) ⟨149, [(125, B false), (124, I p.sheets), (123, .lref 0 0 3 0), (122, I (i + m : Nat)), (2, .lref 0 0 3 0), (5, I p.sheets), (6, gD 1 7 (es ++ ((List.range' i m).flatMap zJ).map (refOf p.sheets))), (11, I (i + m : Nat))], (0, ⟨[zt p], 3, false⟩) :: gO 1 7 encY (es ++ ((List.range' i m).flatMap zJ).map (refOf p.sheets)), gN 1 (es ++ ((List.range' i m).flatMap zJ).map (refOf p.sheets)), 0⟩ = some x) →
    EvL cfg (lim cfg) 109 F lp109_18 k ⟨149, [(2, .lref 0 0 3 0), (5, I p.sheets), (6, gD 1 7 (es)), (11, I (i : Nat))], (0, ⟨[zt p], 3, false⟩) :: gO 1 7 encY (es), gN 1 (es), 0⟩ = some x := by
  obtain ⟨o1, o2, -⟩ := zC hok
  intro m
  induction m with
  | zero =>
    intro i es hi he h
    have hi' : ((i : Int) < p.sheets) = False := by simp; omega
    simp only [List.range'_zero, List.flatMap_nil, List.map_nil, List.append_nil, Nat.add_zero] at h
    refine zk ?_
    try dsimp only [lp109_18, zz, zo, Tryd.f109]
    simp only [bW, if_true, Nat.reduceEqDiff, if_false]
    repeat' first
      | (intro hb; first | cases hb | skip)
      | ((first | apply z8 | apply ze)
         · rfl
         · simp (disch := assumption) only [go_sem, Nat.reduceEqDiff, Nat.reduceAdd, bP, zf, Nat.reduceLeDiff, Nat.reduceLT, Nat.reduceMul, List.length_append, decide_eq_true_eq, z9, z6, Int.reduceToNat, Int.reduceLE, Int.reduceLT, Int.reduceBNe, Int.reduceBEq, hi']
           rfl
         · simp only [go_sem, Nat.reduceLT, Nat.reduceEqDiff]
           rfl
         · rfl
         first
         | (apply zd
            · simp only [z5, z0, Nat.reduceLT, decide_true, cond_true, ins]
              rfl
            · simp only [z5, z0, Nat.reduceLT, decide_true, cond_true, ins]
              rfl)
         | (apply zh
            · simp only [z5, z0, Nat.reduceLT, decide_true, cond_true, ins]
              rfl))
      | ((first | apply zb | apply zc)
         · rfl
         · simp only [z5, z0, Nat.reduceLT, decide_true, cond_true, ins]
           rfl)
      | (apply za
         · simp only [go_sem, Nat.reduceEqDiff])
      | (apply z7
         · simp only [go_sem, Nat.reduceEqDiff])
      | (apply zg
         · kernel_rfl
         · kernel_rfl)
      | (simp only [bW, if_true, Nat.reduceEqDiff, if_false])
    exact h
  | succ m ih =>
    intro i es hi he h
    have hlt' : ((i : Int) < p.sheets) = True := by simp; omega
    have hw2 : IntKind.i64.wrap (-1 - (i : Int)) = -1 - (i : Int) := wrap_i64 (by omega) (by omega)
    have hw3 : IntKind.i64.wrap ((i : Int) + 1) = ((i + 1 : Nat) : Int) := by rw [wrap_i64 (by omega) (by omega)]; omega
    have hr1 : (1 + (i : Int) = 0) = False := by simp; omega
    have hr2 : 1 + (i : Int) - 1 = i := by omega
    have hr3 : lowR 2 1 = ⟨2, 1⟩ := rfl
    rw [show i + (m + 1) = i + 1 + m by omega] at h
    cases es with
    | nil =>
      rw [List.nil_append] at h
      simp only [gD, gO, gN]
      refine zk ?_
      try dsimp only [lp109_18, zz, zo, Tryd.f109]
      simp only [bW, if_true, Nat.reduceEqDiff, if_false]
      repeat' first
        | (intro hb; first | cases hb | skip)
        | ((first | apply z8 | apply ze)
           · rfl
           · simp (disch := assumption) only [go_sem, Nat.reduceEqDiff, Nat.reduceAdd, bP, zf, Nat.reduceLeDiff, Nat.reduceLT, Nat.reduceMul, List.length_append, decide_eq_true_eq, z9, z6, Int.reduceToNat, Int.reduceLE, Int.reduceLT, Int.reduceBNe, Int.reduceBEq, hlt', hw2, hw3, Nat.zero_lt_succ]
             rfl
           · simp only [go_sem, Nat.reduceLT, Nat.reduceEqDiff]
             rfl
           · rfl
           first
           | (apply zd
              · simp only [z5, z0, Nat.reduceLT, decide_true, cond_true, ins]
                rfl
              · simp only [z5, z0, Nat.reduceLT, decide_true, cond_true, ins]
                rfl)
           | (apply zh
              · simp only [z5, z0, Nat.reduceLT, decide_true, cond_true, ins]
                rfl))
        | ((first | apply zb | apply zc)
           · rfl
           · simp only [z5, z0, Nat.reduceLT, decide_true, cond_true, ins]
             rfl)
        | (apply za
           · simp only [go_sem, Nat.reduceEqDiff])
        | (apply z7
           · simp only [go_sem, Nat.reduceEqDiff])
        | (apply zg
           · kernel_rfl
           · kernel_rfl)
        | (simp only [bW, if_true, Nat.reduceEqDiff, if_false])
      refine zu (st1 := ⟨149, [(2, .lref 0 0 3 0), (5, I p.sheets), (6, gD 1 7 (([]) ++ (zJ i).map (refOf p.sheets))), (11, I (i + 1 : Nat))], (0, ⟨[zt p], 3, false⟩) :: gO 1 7 encY (([]) ++ (zJ i).map (refOf p.sheets)), gN 1 (([]) ++ (zJ i).map (refOf p.sheets)), 0⟩) lk109_18 (by
        simp only [go_sem, List.map_append, Nat.reduceEqDiff, Nat.reduceLT, Nat.reduceAdd, bI, bD, bI2, okY.renL, okY.idsL, okY.idsL_app, gD, gO, gN, zt, encY, zJ, refOf, List.length_append, List.append_assoc, hr1, hr2, hr3]
        try rfl) (ih (i + 1) (([]) ++ (zJ i).map (refOf p.sheets)) (by omega) (by simp [zJ] at he ⊢; omega) (by rw [List.nil_append]; rw [List.range'_succ, List.flatMap_cons, List.map_append] at h; exact h))
    | cons e r =>
      simp only [List.length_cons] at he
      have hle : (r.length + 1 + 1 ≤ r.length + 1) = False := by simp
      have hb1 : ((r.length + 1 + 1) * 56 ≤ big) = True := by simp [big]; omega
      have hb2 : (r.length + 1 + 1 ≤ big) = True := by simp [big]; omega
      have hle2 : (r.length + 1 + 1 + 1 ≤ r.length + 1 + 1) = False := by simp
      have hb12 : ((r.length + 1 + 1 + 1) * 56 ≤ big) = True := by simp [big]; omega
      have hb22 : (r.length + 1 + 1 + 1 ≤ big) = True := by simp [big]; omega
      have hao : allOk 7 (encY e :: List.map encY r) = true := okY.allOk (e :: r)
      have hao2 : ∀ d, allOk 7 (encY e :: (List.map encY r ++ [d])) = (d.okCells && (decide (d.cells.length = 7) && true)) := by
        intro d
        rw [← List.cons_append, ← List.map_cons, allOk_append, okY.allOk (e :: r)]
        simp [allOk]
      simp only [gD, gO, gN, List.map_cons]
      refine zk ?_
      try dsimp only [lp109_18, zz, zo, Tryd.f109]
      simp only [bW, if_true, Nat.reduceEqDiff, if_false]
      repeat' first
        | (intro hb; first | cases hb | skip)
        | ((first | apply z8 | apply ze)
           · rfl
           · simp (disch := assumption) only [go_sem, Nat.reduceEqDiff, Nat.reduceAdd, bP, zf, Nat.reduceLeDiff, Nat.reduceLT, Nat.reduceMul, List.length_append, decide_eq_true_eq, z9, z6, Int.reduceToNat, Int.reduceLE, Int.reduceLT, Int.reduceBNe, Int.reduceBEq, hlt', hw2, hw3, Nat.zero_lt_succ, hle, hb1, hb2, hao, hle2, hb12, hb22, hao2, okY.allOk, List.length_map]
             rfl
           · simp only [go_sem, Nat.reduceLT, Nat.reduceEqDiff]
             rfl
           · rfl
           first
           | (apply zd
              · simp only [z5, z0, Nat.reduceLT, decide_true, cond_true, ins]
                rfl
              · simp only [z5, z0, Nat.reduceLT, decide_true, cond_true, ins]
                rfl)
           | (apply zh
              · simp only [z5, z0, Nat.reduceLT, decide_true, cond_true, ins]
                rfl))
        | ((first | apply zb | apply zc)
           · rfl
           · simp only [z5, z0, Nat.reduceLT, decide_true, cond_true, ins]
             rfl)
        | (apply za
           · simp only [go_sem, Nat.reduceEqDiff])
        | (apply z7
           · simp only [go_sem, Nat.reduceEqDiff])
        | (apply zg
           · kernel_rfl
           · kernel_rfl)
        | (simp only [bW, if_true, Nat.reduceEqDiff, if_false])
      refine zu (st1 := ⟨149, [(2, .lref 0 0 3 0), (5, I p.sheets), (6, gD 1 7 ((e :: r) ++ (zJ i).map (refOf p.sheets))), (11, I (i + 1 : Nat))], (0, ⟨[zt p], 3, false⟩) :: gO 1 7 encY ((e :: r) ++ (zJ i).map (refOf p.sheets)), gN 1 ((e :: r) ++ (zJ i).map (refOf p.sheets)), 0⟩) lk109_18 (by
        simp only [go_sem, List.map_append, Nat.reduceEqDiff, Nat.reduceLT, Nat.reduceAdd, bI, bD, bI2, okY.renL, okY.idsL, okY.idsL_app, gD, gO, gN, zt, encY, zJ, refOf, List.length_append, List.append_assoc, hr1, hr2, hr3]
        try rfl) (ih (i + 1) ((e :: r) ++ (zJ i).map (refOf p.sheets)) (by omega) (by simp [zJ] at he ⊢; omega) (by rw [List.range'_succ, List.flatMap_cons, List.map_append, ← List.append_assoc] at h; exact h))

theorem refE_len {p : Paper} (hok : zn p = true) (ax : Int) : (refE p ax).length ≤ 1000 ∧ refE p ax ≠ [] := by
  obtain ⟨o1, o2, o3, o4, _⟩ := zC hok
  have h1 := marksE_len ax p.marks 0
  have h2 := joinsE_len ax p.joins 0
  have h3 := sheetsE_len p.sheets.toNat 0
  have hl : (refE p ax).length = (marksE ax p.marks 0).length + (joinsE ax p.joins 0).length + 2 * p.sheets.toNat := by
    unfold refE refB
    rw [List.length_map, List.length_append, List.length_append, h3]
  refine ⟨by omega, fun h => ?_⟩
  rw [h] at hl
  simp at hl
  omega
theorem t109 (p : Paper) (ax : Int) (hwf : p.wf) (hok : zn p = true) : (lim cfg).pure 109 [zt p, I ax] = some (.sl false ((refE p ax).map encY) 7 none) := by
  obtain ⟨o1, o2, o3, o4, _⟩ := zC hok
  obtain ⟨n, hn⟩ := Int.eq_ofNat_of_zero_le (show 0 ≤ p.sheets by omega)
  have h1 := marksE_len ax p.marks 0
  have h2 := joinsE_len ax p.joins 0
  refine zm (zj 109) cfn109 rfl (n := 149) rfl ?_
  generalize hF : finP cfg Tryd.f109 = F
  simp only [bW, if_true, Nat.reduceEqDiff, if_false, zl]
  repeat' first
    | (intro hb; first | cases hb | skip)
    | ((first | apply z8 | apply ze)
       · rfl
       · simp (disch := assumption) only [go_sem, Nat.reduceEqDiff, Nat.reduceAdd, bP, zf, Nat.reduceLeDiff, Nat.reduceLT, Nat.reduceMul, List.length_append, decide_eq_true_eq, z9, z6, Int.reduceToNat, Int.reduceLE, Int.reduceLT, Int.reduceBNe, Int.reduceBEq]
         rfl
       · simp only [go_sem, Nat.reduceLT, Nat.reduceEqDiff]
         rfl
       · rfl
       first
       | (apply zd
          · simp only [z5, z0, Nat.reduceLT, decide_true, cond_true, ins]
            rfl
          · simp only [z5, z0, Nat.reduceLT, decide_true, cond_true, ins]
            rfl)
       | (apply zh
          · simp only [z5, z0, Nat.reduceLT, decide_true, cond_true, ins]
            rfl))
    | ((first | apply zb | apply zc)
       · rfl
       · simp only [z5, z0, Nat.reduceLT, decide_true, cond_true, ins]
         rfl)
    | (apply za
       · simp only [go_sem, Nat.reduceEqDiff])
    | (apply z7
       · simp only [go_sem, Nat.reduceEqDiff])
    | (apply zg
       · kernel_rfl
       · kernel_rfl)
    | (simp only [bW, if_true, Nat.reduceEqDiff, if_false])
  refine zS (st1 := ⟨149, [(1, I ax), (2, .lref 0 0 3 0), (5, I p.sheets), (6, gD 1 7 ([])), (7, I (0 : Nat))], (0, ⟨[zt p], 3, false⟩) :: gO 1 7 encY ([]), gN 1 ([]), 0⟩) lk109_4 (by
    simp only [go_sem, List.map_append, Nat.reduceEqDiff, Nat.reduceLT, Nat.reduceAdd, bI, bD, bI2, gD, gO, gN]
    try rfl) (L109_4 p ax _ _ hwf hok p.marks 0 [] rfl (Nat.zero_le _) (by simp; omega) ?_)
  rw [List.nil_append]
  generalize hA : (marksE ax p.marks 0).map (refOf p.sheets) = A
  simp only [bW, if_true, Nat.reduceEqDiff, if_false]
  repeat' first
    | (intro hb; first | cases hb | skip)
    | ((first | apply z8 | apply ze)
       · rfl
       · simp (disch := assumption) only [go_sem, Nat.reduceEqDiff, Nat.reduceAdd, bP, zf, Nat.reduceLeDiff, Nat.reduceLT, Nat.reduceMul, List.length_append, decide_eq_true_eq, z9, z6, Int.reduceToNat, Int.reduceLE, Int.reduceLT, Int.reduceBNe, Int.reduceBEq]
         rfl
       · simp only [go_sem, Nat.reduceLT, Nat.reduceEqDiff]
         rfl
       · rfl
       first
       | (apply zd
          · simp only [z5, z0, Nat.reduceLT, decide_true, cond_true, ins]
            rfl
          · simp only [z5, z0, Nat.reduceLT, decide_true, cond_true, ins]
            rfl)
       | (apply zh
          · simp only [z5, z0, Nat.reduceLT, decide_true, cond_true, ins]
            rfl))
    | ((first | apply zb | apply zc)
       · rfl
       · simp only [z5, z0, Nat.reduceLT, decide_true, cond_true, ins]
         rfl)
    | (apply za
       · simp only [go_sem, Nat.reduceEqDiff])
    | (apply z7
       · simp only [go_sem, Nat.reduceEqDiff])
    | (apply zg
       · kernel_rfl
       · kernel_rfl)
    | (simp only [bW, if_true, Nat.reduceEqDiff, if_false])
  refine zS (st1 := ⟨149, [(1, I ax), (2, .lref 0 0 3 0), (5, I p.sheets), (6, gD 1 7 (A)), (9, I (0 : Nat))], (0, ⟨[zt p], 3, false⟩) :: gO 1 7 encY (A), gN 1 (A), 0⟩) lk109_11 (by
    cases A <;> simp only [go_sem, List.map_append, Nat.reduceEqDiff, Nat.reduceLT, Nat.reduceAdd, bI, bD, bI2, gD, gO, gN, okY.renL, okY.idsL, encY]
    all_goals try rfl) (L109_11 p ax _ _ hwf hok p.joins 0 A rfl (Nat.zero_le _) (by rw [← hA]; simp; omega) ?_)
  generalize hB : A ++ (joinsE ax p.joins 0).map (refOf p.sheets) = Bl
  simp only [bW, if_true, Nat.reduceEqDiff, if_false]
  repeat' first
    | (intro hb; first | cases hb | skip)
    | ((first | apply z8 | apply ze)
       · rfl
       · simp (disch := assumption) only [go_sem, Nat.reduceEqDiff, Nat.reduceAdd, bP, zf, Nat.reduceLeDiff, Nat.reduceLT, Nat.reduceMul, List.length_append, decide_eq_true_eq, z9, z6, Int.reduceToNat, Int.reduceLE, Int.reduceLT, Int.reduceBNe, Int.reduceBEq]
         rfl
       · simp only [go_sem, Nat.reduceLT, Nat.reduceEqDiff]
         rfl
       · rfl
       first
       | (apply zd
          · simp only [z5, z0, Nat.reduceLT, decide_true, cond_true, ins]
            rfl
          · simp only [z5, z0, Nat.reduceLT, decide_true, cond_true, ins]
            rfl)
       | (apply zh
          · simp only [z5, z0, Nat.reduceLT, decide_true, cond_true, ins]
            rfl))
    | ((first | apply zb | apply zc)
       · rfl
       · simp only [z5, z0, Nat.reduceLT, decide_true, cond_true, ins]
         rfl)
    | (apply za
       · simp only [go_sem, Nat.reduceEqDiff])
    | (apply z7
       · simp only [go_sem, Nat.reduceEqDiff])
    | (apply zg
       · kernel_rfl
       · kernel_rfl)
    | (simp only [bW, if_true, Nat.reduceEqDiff, if_false])
  refine zS (st1 := ⟨149, [(2, .lref 0 0 3 0), (5, I p.sheets), (6, gD 1 7 (Bl)), (11, I (0 : Nat))], (0, ⟨[zt p], 3, false⟩) :: gO 1 7 encY (Bl), gN 1 (Bl), 0⟩) lk109_18 (by
    cases Bl <;> simp only [go_sem, List.map_append, Nat.reduceEqDiff, Nat.reduceLT, Nat.reduceAdd, bI, bD, bI2, gD, gO, gN, okY.renL, okY.idsL, encY]
    all_goals try rfl) (L109_18 p _ _ hok n 0 Bl (by omega) (by rw [← hB, ← hA]; simp; omega) ?_)
  have hE : Bl ++ ((List.range' 0 n).flatMap zJ).map (refOf p.sheets) = refE p ax := by
    rw [← hB, ← hA]
    unfold refE refB
    rw [List.map_append, List.map_append, hn]; rfl
  rw [hE]
  obtain ⟨r1, r2⟩ := refE_len hok ax
  generalize refE p ax = E at *
  cases E with
  | nil => exact absurd rfl r2
  | cons e r =>
    simp only [gD, gO, gN]
    have htk : List.take (r.length + 1) (List.map encY (e :: r)) = List.map encY (e :: r) := by rw [List.take_of_length_le]; simp
    simp only [List.map_cons] at htk
    simp only [bW, if_true, Nat.reduceEqDiff, if_false]
    repeat' first
      | (intro hb; first | cases hb | skip)
      | ((first | apply z8 | apply ze)
         · rfl
         · simp (disch := assumption) only [go_sem, Nat.reduceEqDiff, Nat.reduceAdd, bP, zf, Nat.reduceLeDiff, Nat.reduceLT, Nat.reduceMul, List.length_append, decide_eq_true_eq, z9, z6, Int.reduceToNat, Int.reduceLE, Int.reduceLT, Int.reduceBNe, Int.reduceBEq]
           rfl
         · simp only [go_sem, Nat.reduceLT, Nat.reduceEqDiff]
           rfl
         · rfl
         first
         | (apply zd
            · simp only [z5, z0, Nat.reduceLT, decide_true, cond_true, ins]
              rfl
            · simp only [z5, z0, Nat.reduceLT, decide_true, cond_true, ins]
              rfl)
         | (apply zh
            · simp only [z5, z0, Nat.reduceLT, decide_true, cond_true, ins]
              rfl))
      | ((first | apply zb | apply zc)
         · rfl
         · simp only [z5, z0, Nat.reduceLT, decide_true, cond_true, ins]
           rfl)
      | (apply za
         · simp only [go_sem, Nat.reduceEqDiff])
      | (apply z7
         · simp only [go_sem, Nat.reduceEqDiff])
      | (apply zg
         · kernel_rfl
         · kernel_rfl)
      | (simp only [bW, if_true, Nat.reduceEqDiff, if_false])
    subst hF
    simp only [go_sem, Nat.reduceEqDiff, bP, Nat.reduceAdd, Nat.reduceLeDiff, List.length_map, Tryd.f109, htk, okY.snapAll, okY.snap]

end Go.VS
namespace Go.VS
open Go Go.Proofs
set_option maxHeartbeats 0
set_option linter.unusedSimpArgs false

theorem t23r (a b : Ratio) (ha : ratioOK a = true) (hb : ratioOK b = true) : (lim cfg).pure 23 [.agg [I a.n, I a.d], .agg [I b.n, I b.d]] = some (I (cmpR a b)) := by
  obtain ⟨an, ad⟩ := a
  obtain ⟨bn, bd⟩ := b
  simp only [ratioOK, Bool.and_eq_true, decide_eq_true_eq] at ha hb
  obtain ⟨x1, rfl⟩ := rat_nat (show 0 ≤ an by omega)
  obtain ⟨x2, rfl⟩ := rat_nat (show 0 ≤ ad by omega)
  obtain ⟨x3, rfl⟩ := rat_nat (show 0 ≤ bn by omega)
  obtain ⟨x4, rfl⟩ := rat_nat (show 0 ≤ bd by omega)
  exact t23 _ x1 x2 x3 x4 (Nat.le_refl _) (by omega) (by omega) (by omega) (by omega) (by omega) (by omega)

theorem t27 (a b : Ratio)  : (lim cfg).pure 27 [encR a, encR b] = some (.tup (if ratioOK a && ratioOK b then [I (cmpR a b), I 0] else [I 0, I 1])) := by
  have t76' := fun (r : Ratio) => t76 r
  simp only [encR] at t76'
  refine zm (zj 27) cfn27 rfl (n := 17) rfl ?_
  simp only [bW, if_true, Nat.reduceEqDiff, if_false, zl]
  repeat' first
    | (intro hb; first | cases hb | skip)
    | ((first | apply z8 | apply ze)
       · rfl
       · simp (disch := assumption) only [go_sem, Nat.reduceEqDiff, Nat.reduceAdd, bP, zf, Nat.reduceLeDiff, Nat.reduceLT, Nat.reduceMul, List.length_append, decide_eq_true_eq, z9, z6, Int.reduceToNat, Int.reduceLE, Int.reduceLT, Int.reduceBNe, Int.reduceBEq, t76', encR, t23r]
         rfl
       · simp only [go_sem, Nat.reduceLT, Nat.reduceEqDiff]
         rfl
       · rfl
       first
       | (apply zd
          · simp only [z5, z0, Nat.reduceLT, decide_true, cond_true, ins]
            rfl
          · simp only [z5, z0, Nat.reduceLT, decide_true, cond_true, ins]
            rfl)
       | (apply zh
          · simp only [z5, z0, Nat.reduceLT, decide_true, cond_true, ins]
            rfl))
    | ((first | apply zb | apply zc)
       · rfl
       · simp only [z5, z0, Nat.reduceLT, decide_true, cond_true, ins]
         rfl)
    | (apply za
       · simp only [go_sem, Nat.reduceEqDiff])
    | (apply z7
       · simp only [go_sem, Nat.reduceEqDiff])
    | (apply zg
       · kernel_rfl
       · kernel_rfl)
    | (simp only [bW, if_true, Nat.reduceEqDiff, if_false])
  all_goals simp only [go_sem, Nat.reduceEqDiff, bP, Nat.reduceAdd, Nat.reduceLeDiff, List.length_map, Tryd.f27]
  all_goals first | rfl | (simp_all []; done) | (simp_all []; intros; omega)

noncomputable def lp28_4 : Code := zz [1, 1, 0, 1, 0, 0] (zo Tryd.f28)
theorem lk28_4 : cfg.keep 28 (zr lp28_4) = [1, 3] := by kernel_rfl
noncomputable def lp28_10 : Code := zz [1, 1, 1, 0, 1, 0, 0] (zo Tryd.f28)
theorem lk28_10 : cfg.keep 28 (zr lp28_10) = [1, 5] := by kernel_rfl

theorem L28_4 {F : Exit → St → Option D} (p : Paper) (k : List Kt) (x : D) (hwf : p.wf) (hsh : IntKind.i64.wrap (p.sheets - 1) = p.sheets - 1) (hk : ∀ st, get st.tmps 2 = I 30 → zB cfg (lim cfg) 28 F k .ret st = some (I 30)) : ∀ (rest : List Mark) (i : Nat), p.marks.drop i = rest → i ≤ p.marks.length →
    ((∀ m ∈ rest, markOK p m = true) → zB cfg (lim cfg) 28 F k (.exit 0) ⟨140, [(27, B false), (26, I p.marks.length), (25, .sl p.nm (p.marks.map encM) (zs p.nm 5) none), (24, .lref 0 0 3 1), (23, I (p.marks.length : Nat)), (1, .lref 0 0 3 0), (3, I (p.marks.length : Nat))], [(0, ⟨[zt p], 3, false⟩)], 1, 0⟩ = some x) →
    ((∃ m ∈ rest, markOK p m = false) → x = I 30) →
    EvL cfg (lim cfg) 28 F lp28_4 k ⟨140, [(1, .lref 0 0 3 0), (3, I (i : Nat))], [(0, ⟨[zt p], 3, false⟩)], 1, 0⟩ = some x := by
  have hl := len_if (f := encM) hwf.1
  intro rest
  induction rest with
  | nil =>
    intro i hd hi h1 h0
    have hi' : i = p.marks.length := by
      have := List.drop_eq_nil_iff.1 hd
      omega
    subst hi'
    refine zk ?_
    try dsimp only [lp28_4, zz, zo, Tryd.f28]
    simp only [bW, if_true, Nat.reduceEqDiff, if_false]
    repeat' first
      | (intro hb; first | cases hb | skip)
      | ((first | apply z8 | apply ze)
         · rfl
         · simp (disch := assumption) only [go_sem, Nat.reduceEqDiff, Nat.reduceAdd, bP, zf, Nat.reduceLeDiff, Nat.reduceLT, Nat.reduceMul, List.length_append, decide_eq_true_eq, z9, z6, Int.reduceToNat, Int.reduceLE, Int.reduceLT, Int.reduceBNe, Int.reduceBEq, hl, Int.lt_irrefl]
           rfl
         · simp only [go_sem, Nat.reduceLT, Nat.reduceEqDiff]
           rfl
         · rfl
         first
         | (apply zd
            · simp only [z5, z0, Nat.reduceLT, decide_true, cond_true, ins]
              rfl
            · simp only [z5, z0, Nat.reduceLT, decide_true, cond_true, ins]
              rfl)
         | (apply zh
            · simp only [z5, z0, Nat.reduceLT, decide_true, cond_true, ins]
              rfl))
      | ((first | apply zb | apply zc)
         · rfl
         · simp only [z5, z0, Nat.reduceLT, decide_true, cond_true, ins]
           rfl)
      | (apply za
         · simp only [go_sem, Nat.reduceEqDiff])
      | (apply z7
         · simp only [go_sem, Nat.reduceEqDiff])
      | (apply zg
         · kernel_rfl
         · kernel_rfl)
      | (simp only [bW, if_true, Nat.reduceEqDiff, if_false])
    exact h1 (fun m hm => by cases hm)
  | cons m rest ih =>
    intro i hd hi h1 h0
    have hlt : i < p.marks.length := by
      rcases Nat.lt_or_ge i p.marks.length with h | h
      · exact h
      · rw [List.drop_eq_nil_of_le h] at hd; cases hd
    have hm : p.marks[i]? = some m := by rw [← List.head?_drop, hd]; rfl
    have hx : (p.marks.map encM)[i]? = some (.agg [I m.sheet, I m.axis, I m.tru, I m.seen, I m.err]) := by rw [List.getElem?_map, hm]; rfl
    have hnm : p.nm = false := by
      cases h : p.nm with
      | false => rfl
      | true => rw [hwf.1 h] at hlt; cases hlt
    have hlt' : (i : Int) < (p.marks.length : Int) := by omega
    have hlen := hwf.2.2.1
    have hwr : IntKind.i64.wrap ((i : Int) + 1) = ((i + 1 : Nat) : Int) := by rw [wrap_i64 (by omega) (by omega)]; omega
    have hlm : ((p.marks.map encM).length : Int) = (p.marks.length : Int) := by simp
    refine zk ?_
    try dsimp only [lp28_4, zz, zo, Tryd.f28]
    simp only [bW, if_true, Nat.reduceEqDiff, if_false]
    repeat' first
      | (intro hb; first | cases hb | skip)
      | ((first | apply z8 | apply ze)
         · rfl
         · simp (disch := assumption) only [go_sem, Nat.reduceEqDiff, Nat.reduceAdd, bP, zf, Nat.reduceLeDiff, Nat.reduceLT, Nat.reduceMul, List.length_append, decide_eq_true_eq, z9, z6, Int.reduceToNat, Int.reduceLE, Int.reduceLT, Int.reduceBNe, Int.reduceBEq, hlm, t77, hx, hnm, hlt', hwr, hsh]
           rfl
         · simp only [go_sem, Nat.reduceLT, Nat.reduceEqDiff]
           rfl
         · rfl
         first
         | (apply zd
            · simp only [z5, z0, Nat.reduceLT, decide_true, cond_true, ins]
              rfl
            · simp only [z5, z0, Nat.reduceLT, decide_true, cond_true, ins]
              rfl)
         | (apply zh
            · simp only [z5, z0, Nat.reduceLT, decide_true, cond_true, ins]
              rfl))
      | ((first | apply zb | apply zc)
         · rfl
         · simp only [z5, z0, Nat.reduceLT, decide_true, cond_true, ins]
           rfl)
      | (apply za
         · simp only [go_sem, Nat.reduceEqDiff])
      | (apply z7
         · simp only [go_sem, Nat.reduceEqDiff])
      | (apply zg
         · kernel_rfl
         · kernel_rfl)
      | (simp only [bW, if_true, Nat.reduceEqDiff, if_false])
    all_goals first
    | (have hx0 : x = I 30 := h0 ⟨m, List.mem_cons_self, by
         clear ih h1 h0 hk hwf hlm hl
         first | (simp_all [markOK, zw, isAxis, isSeen]; done) | (simp_all [markOK, zw, isAxis, isSeen, IntKind.wrap_i64]; intros; omega)⟩
       subst hx0
       exact hk _ rfl)
    | (refine zu (st1 := ⟨140, [(1, .lref 0 0 3 0), (3, I (i + 1 : Nat))], [(0, ⟨[zt p], 3, false⟩)], 1, 0⟩) lk28_4 (by kernel_rfl) (ih (i + 1) ?_ hlt (fun ha => h1 ?_) (fun ⟨m', hm', hb'⟩ => h0 ⟨m', List.mem_cons_of_mem _ hm', hb'⟩))
       · rw [← List.drop_drop, hd]; rfl
       · intro m' hm'
         rcases List.mem_cons.1 hm' with rfl | hm'
         · clear ih h1 h0 hk hwf ha hlm hl
           first | (simp_all [markOK, zw, isAxis, isSeen]; done) | (simp_all [markOK, zw, isAxis, isSeen, IntKind.wrap_i64]; omega)
         · exact ha m' hm')

theorem L28_10 {F : Exit → St → Option D} (p : Paper) (k : List Kt) (x : D) (hwf : p.wf) (hsh : IntKind.i64.wrap (p.sheets - 1) = p.sheets - 1) (hk : ∀ st, get st.tmps 2 = I 30 → zB cfg (lim cfg) 28 F k .ret st = some (I 30)) : ∀ (rest : List Join) (i : Nat), p.joins.drop i = rest → i ≤ p.joins.length →
    ((∀ m ∈ rest, joinOK p m = true) → zB cfg (lim cfg) 28 F k (.exit 2) ⟨140, [(73, B false), (72, I p.joins.length), (71, .sl p.nj (p.joins.map encJ) (zs p.nj 7) none), (70, .lref 0 0 3 2), (69, I (p.joins.length : Nat)), (1, .lref 0 0 3 0), (5, I (p.joins.length : Nat))], [(0, ⟨[zt p], 3, false⟩)], 1, 0⟩ = some x) →
    ((∃ m ∈ rest, joinOK p m = false) → x = I 30) →
    EvL cfg (lim cfg) 28 F lp28_10 k ⟨140, [(1, .lref 0 0 3 0), (5, I (i : Nat))], [(0, ⟨[zt p], 3, false⟩)], 1, 0⟩ = some x := by
  have hl := len_if (f := encJ) hwf.2.1
  intro rest
  induction rest with
  | nil =>
    intro i hd hi h1 h0
    have hi' : i = p.joins.length := by
      have := List.drop_eq_nil_iff.1 hd
      omega
    subst hi'
    refine zk ?_
    try dsimp only [lp28_10, zz, zo, Tryd.f28]
    simp only [bW, if_true, Nat.reduceEqDiff, if_false]
    repeat' first
      | (intro hb; first | cases hb | skip)
      | ((first | apply z8 | apply ze)
         · rfl
         · simp (disch := assumption) only [go_sem, Nat.reduceEqDiff, Nat.reduceAdd, bP, zf, Nat.reduceLeDiff, Nat.reduceLT, Nat.reduceMul, List.length_append, decide_eq_true_eq, z9, z6, Int.reduceToNat, Int.reduceLE, Int.reduceLT, Int.reduceBNe, Int.reduceBEq, hl, Int.lt_irrefl]
           rfl
         · simp only [go_sem, Nat.reduceLT, Nat.reduceEqDiff]
           rfl
         · rfl
         first
         | (apply zd
            · simp only [z5, z0, Nat.reduceLT, decide_true, cond_true, ins]
              rfl
            · simp only [z5, z0, Nat.reduceLT, decide_true, cond_true, ins]
              rfl)
         | (apply zh
            · simp only [z5, z0, Nat.reduceLT, decide_true, cond_true, ins]
              rfl))
      | ((first | apply zb | apply zc)
         · rfl
         · simp only [z5, z0, Nat.reduceLT, decide_true, cond_true, ins]
           rfl)
      | (apply za
         · simp only [go_sem, Nat.reduceEqDiff])
      | (apply z7
         · simp only [go_sem, Nat.reduceEqDiff])
      | (apply zg
         · kernel_rfl
         · kernel_rfl)
      | (simp only [bW, if_true, Nat.reduceEqDiff, if_false])
    exact h1 (fun m hm => by cases hm)
  | cons m rest ih =>
    intro i hd hi h1 h0
    have hlt : i < p.joins.length := by
      rcases Nat.lt_or_ge i p.joins.length with h | h
      · exact h
      · rw [List.drop_eq_nil_of_le h] at hd; cases hd
    have hm : p.joins[i]? = some m := by rw [← List.head?_drop, hd]; rfl
    have hx : (p.joins.map encJ)[i]? = some (.agg [I m.a, I m.b, I m.axis, I m.seenA, I m.errA, I m.seenB, I m.errB]) := by rw [List.getElem?_map, hm]; rfl
    have hnm : p.nj = false := by
      cases h : p.nj with
      | false => rfl
      | true => rw [hwf.2.1 h] at hlt; cases hlt
    have hlt' : (i : Int) < (p.joins.length : Int) := by omega
    have hlen := hwf.2.2.2
    have hwr : IntKind.i64.wrap ((i : Int) + 1) = ((i + 1 : Nat) : Int) := by rw [wrap_i64 (by omega) (by omega)]; omega
    have hlm : ((p.joins.map encJ).length : Int) = (p.joins.length : Int) := by simp
    refine zk ?_
    try dsimp only [lp28_10, zz, zo, Tryd.f28]
    simp only [bW, if_true, Nat.reduceEqDiff, if_false]
    repeat' first
      | (intro hb; first | cases hb | skip)
      | ((first | apply z8 | apply ze)
         · rfl
         · simp (disch := assumption) only [go_sem, Nat.reduceEqDiff, Nat.reduceAdd, bP, zf, Nat.reduceLeDiff, Nat.reduceLT, Nat.reduceMul, List.length_append, decide_eq_true_eq, z9, z6, Int.reduceToNat, Int.reduceLE, Int.reduceLT, Int.reduceBNe, Int.reduceBEq, hlm, t77, hx, hnm, hlt', hwr, hsh]
           rfl
         · simp only [go_sem, Nat.reduceLT, Nat.reduceEqDiff]
           rfl
         · rfl
         first
         | (apply zd
            · simp only [z5, z0, Nat.reduceLT, decide_true, cond_true, ins]
              rfl
            · simp only [z5, z0, Nat.reduceLT, decide_true, cond_true, ins]
              rfl)
         | (apply zh
            · simp only [z5, z0, Nat.reduceLT, decide_true, cond_true, ins]
              rfl))
      | ((first | apply zb | apply zc)
         · rfl
         · simp only [z5, z0, Nat.reduceLT, decide_true, cond_true, ins]
           rfl)
      | (apply za
         · simp only [go_sem, Nat.reduceEqDiff])
      | (apply z7
         · simp only [go_sem, Nat.reduceEqDiff])
      | (apply zg
         · kernel_rfl
         · kernel_rfl)
      | (simp only [bW, if_true, Nat.reduceEqDiff, if_false])
    all_goals first
    | (have hx0 : x = I 30 := h0 ⟨m, List.mem_cons_self, by
         clear ih h1 h0 hk hwf hlm hl
         first | (simp_all [joinOK, zw, isAxis, isSeen]; done) | (simp_all [joinOK, zw, isAxis, isSeen, IntKind.wrap_i64]; intros; omega)⟩
       subst hx0
       exact hk _ rfl)
    | (refine zu (st1 := ⟨140, [(1, .lref 0 0 3 0), (5, I (i + 1 : Nat))], [(0, ⟨[zt p], 3, false⟩)], 1, 0⟩) lk28_10 (by kernel_rfl) (ih (i + 1) ?_ hlt (fun ha => h1 ?_) (fun ⟨m', hm', hb'⟩ => h0 ⟨m', List.mem_cons_of_mem _ hm', hb'⟩))
       · rw [← List.drop_drop, hd]; rfl
       · intro m' hm'
         rcases List.mem_cons.1 hm' with rfl | hm'
         · clear ih h1 h0 hk hwf ha hlm hl
           first | (simp_all [joinOK, zw, isAxis, isSeen]; done) | (simp_all [joinOK, zw, isAxis, isSeen, IntKind.wrap_i64]; omega)
         · exact ha m' hm')

theorem t28 (p : Paper) (hwf : p.wf) : (lim cfg).pure 28 [zt p] = some (I (check p)) := by
  have hlm := len_if (f := encM) hwf.1
  have hlj := len_if (f := encJ) hwf.2.1
  refine zm (zj 28) cfn28 rfl (n := 140) rfl ?_
  generalize hF : finP cfg Tryd.f28 = F
  simp only [bW, if_true, Nat.reduceEqDiff, if_false, zl]
  have hret : ∀ (v : Int) st, get st.tmps 2 = I v → F .ret st = some (I v) := by
    intro v st h
    subst hF
    simp only [go_sem, Nat.reduceEqDiff, bP, Nat.reduceAdd, Nat.reduceLeDiff, List.length_map, Tryd.f28, h]
  cases hs : decide (1 ≤ p.sheets) && decide (p.sheets ≤ 4) with
  | false =>
    have hx0 : check p = 30 := by simp [check, zn, hs]
    rw [hx0]
    repeat' first
      | (intro hb; first | cases hb | skip)
      | ((first | apply z8 | apply ze)
         · rfl
         · simp (disch := assumption) only [go_sem, Nat.reduceEqDiff, Nat.reduceAdd, bP, zf, Nat.reduceLeDiff, Nat.reduceLT, Nat.reduceMul, List.length_append, decide_eq_true_eq, z9, z6, Int.reduceToNat, Int.reduceLE, Int.reduceLT, Int.reduceBNe, Int.reduceBEq, t77, hs, hlm, hlj]
           rfl
         · simp only [go_sem, Nat.reduceLT, Nat.reduceEqDiff]
           rfl
         · rfl
         first
         | (apply zd
            · simp only [z5, z0, Nat.reduceLT, decide_true, cond_true, ins]
              rfl
            · simp only [z5, z0, Nat.reduceLT, decide_true, cond_true, ins]
              rfl)
         | (apply zh
            · simp only [z5, z0, Nat.reduceLT, decide_true, cond_true, ins]
              rfl))
      | ((first | apply zb | apply zc)
         · rfl
         · simp only [z5, z0, Nat.reduceLT, decide_true, cond_true, ins]
           rfl)
      | (apply za
         · simp only [go_sem, Nat.reduceEqDiff])
      | (apply z7
         · simp only [go_sem, Nat.reduceEqDiff])
      | (apply zg
         · kernel_rfl
         · kernel_rfl)
      | (simp only [bW, if_true, Nat.reduceEqDiff, if_false])
    all_goals exact hret 30 _ rfl
  | true =>
    have hsh : IntKind.i64.wrap (p.sheets - 1) = p.sheets - 1 := by simp at hs; rw [wrap_i64 (by omega) (by omega)]
    repeat' first
      | (intro hb; first | cases hb | skip)
      | ((first | apply z8 | apply ze)
         · rfl
         · simp (disch := assumption) only [go_sem, Nat.reduceEqDiff, Nat.reduceAdd, bP, zf, Nat.reduceLeDiff, Nat.reduceLT, Nat.reduceMul, List.length_append, decide_eq_true_eq, z9, z6, Int.reduceToNat, Int.reduceLE, Int.reduceLT, Int.reduceBNe, Int.reduceBEq, t77, hs, hlm, hlj]
           rfl
         · simp only [go_sem, Nat.reduceLT, Nat.reduceEqDiff]
           rfl
         · rfl
         first
         | (apply zd
            · simp only [z5, z0, Nat.reduceLT, decide_true, cond_true, ins]
              rfl
            · simp only [z5, z0, Nat.reduceLT, decide_true, cond_true, ins]
              rfl)
         | (apply zh
            · simp only [z5, z0, Nat.reduceLT, decide_true, cond_true, ins]
              rfl))
      | ((first | apply zb | apply zc)
         · rfl
         · simp only [z5, z0, Nat.reduceLT, decide_true, cond_true, ins]
           rfl)
      | (apply za
         · simp only [go_sem, Nat.reduceEqDiff])
      | (apply z7
         · simp only [go_sem, Nat.reduceEqDiff])
      | (apply zg
         · kernel_rfl
         · kernel_rfl)
      | (simp only [bW, if_true, Nat.reduceEqDiff, if_false])
    all_goals try exact (by
      have hx0 : check p = 30 := by
        clear hret hF
        first | (simp_all [check, zn]; done) | (simp_all [check, zn]; intros; omega)
      rw [hx0]; exact hret 30 _ rfl)
    refine zS (st1 := ⟨140, [(1, .lref 0 0 3 0), (3, I (0 : Nat))], [(0, ⟨[zt p], 3, false⟩)], 1, 0⟩) lk28_4 (by kernel_rfl) (L28_4 p _ _ hwf hsh (fun st h => by simp only [bW, if_true, Nat.reduceEqDiff, if_false]; exact hret 30 st h) p.marks 0 rfl (Nat.zero_le _) (fun hm => ?_) (fun ⟨m, h1, h2⟩ => ?_))
    · simp only [bW, if_true, Nat.reduceEqDiff, if_false]
      repeat' first
        | (intro hb; first | cases hb | skip)
        | ((first | apply z8 | apply ze)
           · rfl
           · simp (disch := assumption) only [go_sem, Nat.reduceEqDiff, Nat.reduceAdd, bP, zf, Nat.reduceLeDiff, Nat.reduceLT, Nat.reduceMul, List.length_append, decide_eq_true_eq, z9, z6, Int.reduceToNat, Int.reduceLE, Int.reduceLT, Int.reduceBNe, Int.reduceBEq, hlm, hlj]
             rfl
           · simp only [go_sem, Nat.reduceLT, Nat.reduceEqDiff]
             rfl
           · rfl
           first
           | (apply zd
              · simp only [z5, z0, Nat.reduceLT, decide_true, cond_true, ins]
                rfl
              · simp only [z5, z0, Nat.reduceLT, decide_true, cond_true, ins]
                rfl)
           | (apply zh
              · simp only [z5, z0, Nat.reduceLT, decide_true, cond_true, ins]
                rfl))
        | ((first | apply zb | apply zc)
           · rfl
           · simp only [z5, z0, Nat.reduceLT, decide_true, cond_true, ins]
             rfl)
        | (apply za
           · simp only [go_sem, Nat.reduceEqDiff])
        | (apply z7
           · simp only [go_sem, Nat.reduceEqDiff])
        | (apply zg
           · kernel_rfl
           · kernel_rfl)
        | (simp only [bW, if_true, Nat.reduceEqDiff, if_false])
      refine zS (st1 := ⟨140, [(1, .lref 0 0 3 0), (5, I (0 : Nat))], [(0, ⟨[zt p], 3, false⟩)], 1, 0⟩) lk28_10 (by kernel_rfl) (L28_10 p _ _ hwf hsh (fun st h => by simp only [bW, if_true, Nat.reduceEqDiff, if_false]; exact hret 30 st h) p.joins 0 rfl (Nat.zero_le _) (fun hj => ?_) (fun ⟨m, h1, h2⟩ => ?_))
      · simp only [bW, if_true, Nat.reduceEqDiff, if_false]
        have hx0 : check p = 0 := by
          clear hret hF
          simp_all [check, zn]
          try omega
        rw [hx0]
        repeat' first
          | (intro hb; first | cases hb | skip)
          | ((first | apply z8 | apply ze)
             · rfl
             · simp (disch := assumption) only [go_sem, Nat.reduceEqDiff, Nat.reduceAdd, bP, zf, Nat.reduceLeDiff, Nat.reduceLT, Nat.reduceMul, List.length_append, decide_eq_true_eq, z9, z6, Int.reduceToNat, Int.reduceLE, Int.reduceLT, Int.reduceBNe, Int.reduceBEq, hlm, hlj]
               rfl
             · simp only [go_sem, Nat.reduceLT, Nat.reduceEqDiff]
               rfl
             · rfl
             first
             | (apply zd
                · simp only [z5, z0, Nat.reduceLT, decide_true, cond_true, ins]
                  rfl
                · simp only [z5, z0, Nat.reduceLT, decide_true, cond_true, ins]
                  rfl)
             | (apply zh
                · simp only [z5, z0, Nat.reduceLT, decide_true, cond_true, ins]
                  rfl))
          | ((first | apply zb | apply zc)
             · rfl
             · simp only [z5, z0, Nat.reduceLT, decide_true, cond_true, ins]
               rfl)
          | (apply za
             · simp only [go_sem, Nat.reduceEqDiff])
          | (apply z7
             · simp only [go_sem, Nat.reduceEqDiff])
          | (apply zg
             · kernel_rfl
             · kernel_rfl)
          | (simp only [bW, if_true, Nat.reduceEqDiff, if_false])
        exact hret 0 _ rfl
      · clear hret hF
        have : p.joins.all (joinOK p) = false := by rw [List.all_eq_false]; exact ⟨m, h1, by simp [h2]⟩
        simp [check, zn, this]
    · clear hret hF
      have : p.marks.all (markOK p) = false := by rw [List.all_eq_false]; exact ⟨m, h1, by simp [h2]⟩
      simp [check, zn, this]

end Go.VS
