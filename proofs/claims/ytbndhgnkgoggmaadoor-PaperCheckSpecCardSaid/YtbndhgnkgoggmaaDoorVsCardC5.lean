/- Nothing of a statement is proved in this text alone: it is part 5 of the proof's own tools, an evaluator of the code over deep values, its soundness, and what it makes of this seat's functions. Conditions: none beyond the statement's own. -/
import Derived.Test.YtbndhgnkgoggmaaDoorVsCardC4
set_option linter.unusedSimpArgs false
set_option linter.unusedVariables false
namespace Go.VS
open Go Go.Proofs
set_option maxHeartbeats 0
set_option linter.unusedSimpArgs false

theorem cmpI_neg {a b : Int} (h : a < b) : cmpI a b = -1 := by unfold cmpI; rw [if_neg (by omega), if_pos h]
theorem cmpI_pos {a b : Int} (h : b < a) : cmpI a b = 1 := by unfold cmpI; rw [if_neg (by omega), if_neg (by omega)]
theorem cmpI_self (a : Int) : cmpI a a = 0 := by unfold cmpI; rw [if_pos rfl]
theorem cmpI_add (a b c : Int) : cmpI (c + a) (c + b) = cmpI a b := by
  unfold cmpI
  by_cases h : a = b
  · rw [if_pos h, if_pos (by omega)]
  · rw [if_neg h, if_neg (by omega)]
    by_cases h2 : a < b
    · rw [if_pos h2, if_pos (by omega)]
    · rw [if_neg h2, if_neg (by omega)]
theorem quo_lt {n d n' d' : Nat} (hd : 0 < d) (hd' : 0 < d') (h : n / d < n' / d') : n * d' < n' * d := by
  have h1 : n < d * (n / d + 1) := Nat.lt_mul_div_succ n hd
  have h2 : d' * (n' / d') ≤ n' := Nat.mul_div_le n' d'
  calc n * d' < d * (n / d + 1) * d' := Nat.mul_lt_mul_of_pos_right h1 hd'
    _ ≤ d * (n' / d') * d' := Nat.mul_le_mul_right _ (Nat.mul_le_mul_left _ h)
    _ = d' * (n' / d') * d := by rw [Nat.mul_comm d, Nat.mul_right_comm, Nat.mul_comm _ d']
    _ ≤ n' * d := Nat.mul_le_mul_right _ h2
theorem cmp_quo {n d n' d' : Nat} (h : n / d = n' / d') : cmpI ((n : Int) * d') (n' * d) = cmpI ((d' : Int) * (n % d : Nat)) ((d : Int) * (n' % d' : Nat)) := by
  have h1 := Nat.div_add_mod n d
  have h2 := Nat.div_add_mod n' d'
  have e1 : n * d' = d * d' * (n / d) + d' * (n % d) := by
    conv => lhs; rw [← h1]
    rw [Nat.add_mul, Nat.mul_right_comm, Nat.mul_comm (n % d)]
  have e2 : n' * d = d * d' * (n / d) + d * (n' % d') := by
    conv => lhs; rw [← h2]
    rw [h, Nat.add_mul, Nat.mul_right_comm, Nat.mul_comm d' d, Nat.mul_comm (n' % d')]
  have e1' : (n : Int) * d' = (d * d' * (n / d) : Nat) + (d' : Int) * (n % d : Nat) := by
    rw [← Int.natCast_mul, e1, Int.natCast_add, Int.natCast_mul d']
  have e2' : (n' : Int) * d = (d * d' * (n / d) : Nat) + (d : Int) * (n' % d' : Nat) := by
    rw [← Int.natCast_mul, e2, Int.natCast_add, Int.natCast_mul d]
  rw [e1', e2', cmpI_add]

theorem t23 : ∀ (m n d n' d' : Nat), d + d' ≤ m → 0 < d → 0 < d' → n < 9223372036854775808 → d < 9223372036854775808 → n' < 9223372036854775808 → d' < 9223372036854775808 → (lim cfg).pure 23 [.agg [I n, I d], .agg [I n', I d']] = some (I (cmpI ((n : Int) * d') (n' * d))) := by
  intro m
  induction m with
  | zero => intro n d n' d' h hd hd'; omega
  | succ m ih =>
    intro n d n' d' h hd hd' b1 b2 b3 b4
    have hd0 : ((d : Int) = 0) = False := by simp; omega
    have hd0' : ((d' : Int) = 0) = False := by simp; omega
    have hq1 : IntKind.i64.wrap ((n : Int).tdiv (d : Int)) = ((n / d : Nat) : Int) := by rw [quo_wrap (by omega) (by omega) (by omega)]; rfl
    have hq2 : IntKind.i64.wrap ((n' : Int).tdiv (d' : Int)) = ((n' / d' : Nat) : Int) := by rw [quo_wrap (by omega) (by omega) (by omega)]; rfl
    have hm1 : (n : Int).tmod (d : Int) = ((n % d : Nat) : Int) := rfl
    have hm2 : (n' : Int).tmod (d' : Int) = ((n' % d' : Nat) : Int) := rfl
    have l1 := Nat.mod_lt n hd
    have l2 := Nat.mod_lt n' hd'
    rcases Nat.lt_trichotomy (n / d) (n' / d') with hq | hq | hq
    · have hz1 : (((n / d : Nat) : Int) < ((n' / d' : Nat) : Int)) = True := by simp only [eq_iff_iff, iff_true]; omega
      rw [cmpI_neg (by have := quo_lt hd hd' hq; rw [← Int.natCast_mul, ← Int.natCast_mul]; omega)]
      refine yR (yG 23) cfn23 rfl (n := 58) rfl ?_
      skip
      simp only [bW, if_true, Nat.reduceEqDiff, if_false, yJ]
      repeat' first
        | (intro hb; first | cases hb | skip)
        | ((first | apply zB | apply y7)
           · rfl
           · simp (disch := assumption) only [yx, z6, get, z5, z0, Nat.reduceEqDiff, decide_true, decide_false, cond_true, cond_false, yk, zr, zI, yg, zF, Bool.and_true, Bool.true_and, Bool.and_self, Bool.and_false, Bool.false_and, Bool.or_false, Bool.or_true, Bool.false_or, Bool.true_or, Bool.not_true, Bool.not_false, if_true, ye, List.length_cons, List.length_nil, yy, yb, z7, zu, zt, zl, List.getElem?_cons_zero, List.getElem?_cons_succ, Nat.reduceAdd, Nat.zero_add, Nat.add_zero, Nat.one_ne_zero, zT, zs, zp, yC, zG, bP, Ty.isAgg, yB, zX, zR, zm, yh, zh, zV, yj, zg, ofV, zQ, zS, Bool.false_eq_true, if_false, Nat.reduceLeDiff, Nat.reduceLT, List.take, List.drop, List.map_cons, List.map_nil, List.append_nil, List.nil_append, List.cons_append, List.set, unD, yf, snapAll, zy, yi, zJ, zj, yE, z8, zw, ym, zU, Int.toNat_natCast, Int.natCast_nonneg, Int.toNat_zero, Int.le_refl, Nat.reduceMul, Nat.zero_mul, Nat.mul_zero, yl, zc, zW, zq, zb, zf, yA, eqD, zo, zK, yp, zH, zk, Nat.le_refl, Array.toList_map, List.size_toArray, List.getElem?_toArray, Nat.sub_zero, List.length_append, Nat.mul_one, zv, yo, bO, bS, z9, ze, zC, List.replicate, zE, zD, y9, allOk, yu, y8, newRow, yM, List.isEmpty, Bool.not_false, Bool.not_true, decide_eq_true_eq, zM, zP, zO, zz, zx, yc, zi, Option.map_some, Option.map_none, Option.isNone, Option.isSome, Option.getD_none, Option.getD_some, yP, zN, zn, Int.reduceToNat, Int.reduceLE, Int.reduceLT, Int.reduceBNe, Int.reduceBEq, tys, cks, hq1, hq2, hd0, hd0', hz1]
             rfl
           · simp only [zd, yF, yD, z0, z5, Nat.reduceLT, Nat.reduceEqDiff, decide_true, decide_false, cond_true, cond_false]
             rfl
           · rfl
           first
           | (apply y6
              · simp only [za, z0, Nat.reduceLT, decide_true, cond_true, ins]
                rfl
              · simp only [za, z0, Nat.reduceLT, decide_true, cond_true, ins]
                rfl)
           | (apply yt
              · simp only [za, z0, Nat.reduceLT, decide_true, cond_true, ins]
                rfl))
        | ((first | apply zZ | apply y5)
           · rfl
           · simp only [za, z0, Nat.reduceLT, decide_true, cond_true, ins]
             rfl)
        | (apply zY
           · simp only [z6, get, z5, Nat.reduceEqDiff, decide_true, decide_false, cond_true, cond_false])
        | (apply zA
           · simp only [z6, get, z5, Nat.reduceEqDiff, decide_true, decide_false, cond_true, cond_false])
        | (apply yq
           · kernel_rfl
           · kernel_rfl)
        | (simp only [bW, if_true, Nat.reduceEqDiff, if_false])
      all_goals try simp only [xf, finF, yI, yX, zl, get, zG, z5, Nat.reduceEqDiff, decide_true, decide_false, cond_true, cond_false, yV, snapAll, zy, List.getElem?_cons_zero, List.getElem?_cons_succ, bP, Ty.isAgg, if_true, if_false, Bool.false_eq_true, Nat.zero_add, Nat.add_zero, List.length_cons, List.length_nil, Nat.reduceAdd, Nat.reduceLeDiff, List.take, List.drop, Bool.true_and, Bool.and_self, Nat.le_refl, List.map_cons, List.length_map, List.append_nil, List.nil_append, List.cons_append, Nat.sub_zero, bO, bS, tys, Tryd.f23]
      all_goals first | done | rfl | (simp_all []; done) | trace_state

    · have hz1 : (((n' / d' : Nat) : Int) < ((n' / d' : Nat) : Int)) = False := by simp
      have hz2 : (((n' / d' : Nat) : Int) > ((n' / d' : Nat) : Int)) = False := by simp
      rw [hq] at hq1
      rw [cmp_quo hq]
      rcases Nat.eq_zero_or_pos (n % d) with hx | hx
      · rcases Nat.eq_zero_or_pos (n' % d') with hy | hy
        · rw [hx] at hm1
          rw [hy] at hm2
          rw [hx, hy]
          simp only [Int.natCast_zero, Int.mul_zero, cmpI_self]
          refine yR (yG 23) cfn23 rfl (n := 58) rfl ?_
          skip
          simp only [bW, if_true, Nat.reduceEqDiff, if_false, yJ]
          repeat' first
            | (intro hb; first | cases hb | skip)
            | ((first | apply zB | apply y7)
               · rfl
               · simp (disch := assumption) only [yx, z6, get, z5, z0, Nat.reduceEqDiff, decide_true, decide_false, cond_true, cond_false, yk, zr, zI, yg, zF, Bool.and_true, Bool.true_and, Bool.and_self, Bool.and_false, Bool.false_and, Bool.or_false, Bool.or_true, Bool.false_or, Bool.true_or, Bool.not_true, Bool.not_false, if_true, ye, List.length_cons, List.length_nil, yy, yb, z7, zu, zt, zl, List.getElem?_cons_zero, List.getElem?_cons_succ, Nat.reduceAdd, Nat.zero_add, Nat.add_zero, Nat.one_ne_zero, zT, zs, zp, yC, zG, bP, Ty.isAgg, yB, zX, zR, zm, yh, zh, zV, yj, zg, ofV, zQ, zS, Bool.false_eq_true, if_false, Nat.reduceLeDiff, Nat.reduceLT, List.take, List.drop, List.map_cons, List.map_nil, List.append_nil, List.nil_append, List.cons_append, List.set, unD, yf, snapAll, zy, yi, zJ, zj, yE, z8, zw, ym, zU, Int.toNat_natCast, Int.natCast_nonneg, Int.toNat_zero, Int.le_refl, Nat.reduceMul, Nat.zero_mul, Nat.mul_zero, yl, zc, zW, zq, zb, zf, yA, eqD, zo, zK, yp, zH, zk, Nat.le_refl, Array.toList_map, List.size_toArray, List.getElem?_toArray, Nat.sub_zero, List.length_append, Nat.mul_one, zv, yo, bO, bS, z9, ze, zC, List.replicate, zE, zD, y9, allOk, yu, y8, newRow, yM, List.isEmpty, Bool.not_false, Bool.not_true, decide_eq_true_eq, zM, zP, zO, zz, zx, yc, zi, Option.map_some, Option.map_none, Option.isNone, Option.isSome, Option.getD_none, Option.getD_some, yP, zN, zn, Int.reduceToNat, Int.reduceLE, Int.reduceLT, Int.reduceBNe, Int.reduceBEq, tys, cks, hq1, hq2, hd0, hd0', hz1, hz2, hm1, hm2, Int.natCast_zero, beq_self_eq_true]
                 rfl
               · simp only [zd, yF, yD, z0, z5, Nat.reduceLT, Nat.reduceEqDiff, decide_true, decide_false, cond_true, cond_false]
                 rfl
               · rfl
               first
               | (apply y6
                  · simp only [za, z0, Nat.reduceLT, decide_true, cond_true, ins]
                    rfl
                  · simp only [za, z0, Nat.reduceLT, decide_true, cond_true, ins]
                    rfl)
               | (apply yt
                  · simp only [za, z0, Nat.reduceLT, decide_true, cond_true, ins]
                    rfl))
            | ((first | apply zZ | apply y5)
               · rfl
               · simp only [za, z0, Nat.reduceLT, decide_true, cond_true, ins]
                 rfl)
            | (apply zY
               · simp only [z6, get, z5, Nat.reduceEqDiff, decide_true, decide_false, cond_true, cond_false])
            | (apply zA
               · simp only [z6, get, z5, Nat.reduceEqDiff, decide_true, decide_false, cond_true, cond_false])
            | (apply yq
               · kernel_rfl
               · kernel_rfl)
            | (simp only [bW, if_true, Nat.reduceEqDiff, if_false])
          all_goals try simp only [xf, finF, yI, yX, zl, get, zG, z5, Nat.reduceEqDiff, decide_true, decide_false, cond_true, cond_false, yV, snapAll, zy, List.getElem?_cons_zero, List.getElem?_cons_succ, bP, Ty.isAgg, if_true, if_false, Bool.false_eq_true, Nat.zero_add, Nat.add_zero, List.length_cons, List.length_nil, Nat.reduceAdd, Nat.reduceLeDiff, List.take, List.drop, Bool.true_and, Bool.and_self, Nat.le_refl, List.map_cons, List.length_map, List.append_nil, List.nil_append, List.cons_append, Nat.sub_zero, bO, bS, tys, Tryd.f23]
          all_goals first | done | rfl | (simp_all []; done) | trace_state

        · have hy0 : (((n' % d' : Nat) : Int) == 0) = false := by simp; omega
          rw [hx] at hm1
          rw [hx]
          simp only [Int.natCast_zero, Int.mul_zero]
          rw [cmpI_neg (by rw [← Int.natCast_mul]; have := Nat.mul_pos hd hy; omega)]
          refine yR (yG 23) cfn23 rfl (n := 58) rfl ?_
          skip
          simp only [bW, if_true, Nat.reduceEqDiff, if_false, yJ]
          repeat' first
            | (intro hb; first | cases hb | skip)
            | ((first | apply zB | apply y7)
               · rfl
               · simp (disch := assumption) only [yx, z6, get, z5, z0, Nat.reduceEqDiff, decide_true, decide_false, cond_true, cond_false, yk, zr, zI, yg, zF, Bool.and_true, Bool.true_and, Bool.and_self, Bool.and_false, Bool.false_and, Bool.or_false, Bool.or_true, Bool.false_or, Bool.true_or, Bool.not_true, Bool.not_false, if_true, ye, List.length_cons, List.length_nil, yy, yb, z7, zu, zt, zl, List.getElem?_cons_zero, List.getElem?_cons_succ, Nat.reduceAdd, Nat.zero_add, Nat.add_zero, Nat.one_ne_zero, zT, zs, zp, yC, zG, bP, Ty.isAgg, yB, zX, zR, zm, yh, zh, zV, yj, zg, ofV, zQ, zS, Bool.false_eq_true, if_false, Nat.reduceLeDiff, Nat.reduceLT, List.take, List.drop, List.map_cons, List.map_nil, List.append_nil, List.nil_append, List.cons_append, List.set, unD, yf, snapAll, zy, yi, zJ, zj, yE, z8, zw, ym, zU, Int.toNat_natCast, Int.natCast_nonneg, Int.toNat_zero, Int.le_refl, Nat.reduceMul, Nat.zero_mul, Nat.mul_zero, yl, zc, zW, zq, zb, zf, yA, eqD, zo, zK, yp, zH, zk, Nat.le_refl, Array.toList_map, List.size_toArray, List.getElem?_toArray, Nat.sub_zero, List.length_append, Nat.mul_one, zv, yo, bO, bS, z9, ze, zC, List.replicate, zE, zD, y9, allOk, yu, y8, newRow, yM, List.isEmpty, Bool.not_false, Bool.not_true, decide_eq_true_eq, zM, zP, zO, zz, zx, yc, zi, Option.map_some, Option.map_none, Option.isNone, Option.isSome, Option.getD_none, Option.getD_some, yP, zN, zn, Int.reduceToNat, Int.reduceLE, Int.reduceLT, Int.reduceBNe, Int.reduceBEq, tys, cks, hq1, hq2, hd0, hd0', hz1, hz2, hm1, hm2, Int.natCast_zero, beq_self_eq_true, hy0]
                 rfl
               · simp only [zd, yF, yD, z0, z5, Nat.reduceLT, Nat.reduceEqDiff, decide_true, decide_false, cond_true, cond_false]
                 rfl
               · rfl
               first
               | (apply y6
                  · simp only [za, z0, Nat.reduceLT, decide_true, cond_true, ins]
                    rfl
                  · simp only [za, z0, Nat.reduceLT, decide_true, cond_true, ins]
                    rfl)
               | (apply yt
                  · simp only [za, z0, Nat.reduceLT, decide_true, cond_true, ins]
                    rfl))
            | ((first | apply zZ | apply y5)
               · rfl
               · simp only [za, z0, Nat.reduceLT, decide_true, cond_true, ins]
                 rfl)
            | (apply zY
               · simp only [z6, get, z5, Nat.reduceEqDiff, decide_true, decide_false, cond_true, cond_false])
            | (apply zA
               · simp only [z6, get, z5, Nat.reduceEqDiff, decide_true, decide_false, cond_true, cond_false])
            | (apply yq
               · kernel_rfl
               · kernel_rfl)
            | (simp only [bW, if_true, Nat.reduceEqDiff, if_false])
          all_goals try simp only [xf, finF, yI, yX, zl, get, zG, z5, Nat.reduceEqDiff, decide_true, decide_false, cond_true, cond_false, yV, snapAll, zy, List.getElem?_cons_zero, List.getElem?_cons_succ, bP, Ty.isAgg, if_true, if_false, Bool.false_eq_true, Nat.zero_add, Nat.add_zero, List.length_cons, List.length_nil, Nat.reduceAdd, Nat.reduceLeDiff, List.take, List.drop, Bool.true_and, Bool.and_self, Nat.le_refl, List.map_cons, List.length_map, List.append_nil, List.nil_append, List.cons_append, Nat.sub_zero, bO, bS, tys, Tryd.f23]
          all_goals first | done | rfl | (simp_all []; done) | trace_state

      · have hx0 : (((n % d : Nat) : Int) == 0) = false := by simp; omega
        rcases Nat.eq_zero_or_pos (n' % d') with hy | hy
        · rw [hy] at hm2
          rw [hy]
          simp only [Int.natCast_zero, Int.mul_zero]
          rw [cmpI_pos (by rw [← Int.natCast_mul]; have := Nat.mul_pos hd' hx; omega)]
          refine yR (yG 23) cfn23 rfl (n := 58) rfl ?_
          skip
          simp only [bW, if_true, Nat.reduceEqDiff, if_false, yJ]
          repeat' first
            | (intro hb; first | cases hb | skip)
            | ((first | apply zB | apply y7)
               · rfl
               · simp (disch := assumption) only [yx, z6, get, z5, z0, Nat.reduceEqDiff, decide_true, decide_false, cond_true, cond_false, yk, zr, zI, yg, zF, Bool.and_true, Bool.true_and, Bool.and_self, Bool.and_false, Bool.false_and, Bool.or_false, Bool.or_true, Bool.false_or, Bool.true_or, Bool.not_true, Bool.not_false, if_true, ye, List.length_cons, List.length_nil, yy, yb, z7, zu, zt, zl, List.getElem?_cons_zero, List.getElem?_cons_succ, Nat.reduceAdd, Nat.zero_add, Nat.add_zero, Nat.one_ne_zero, zT, zs, zp, yC, zG, bP, Ty.isAgg, yB, zX, zR, zm, yh, zh, zV, yj, zg, ofV, zQ, zS, Bool.false_eq_true, if_false, Nat.reduceLeDiff, Nat.reduceLT, List.take, List.drop, List.map_cons, List.map_nil, List.append_nil, List.nil_append, List.cons_append, List.set, unD, yf, snapAll, zy, yi, zJ, zj, yE, z8, zw, ym, zU, Int.toNat_natCast, Int.natCast_nonneg, Int.toNat_zero, Int.le_refl, Nat.reduceMul, Nat.zero_mul, Nat.mul_zero, yl, zc, zW, zq, zb, zf, yA, eqD, zo, zK, yp, zH, zk, Nat.le_refl, Array.toList_map, List.size_toArray, List.getElem?_toArray, Nat.sub_zero, List.length_append, Nat.mul_one, zv, yo, bO, bS, z9, ze, zC, List.replicate, zE, zD, y9, allOk, yu, y8, newRow, yM, List.isEmpty, Bool.not_false, Bool.not_true, decide_eq_true_eq, zM, zP, zO, zz, zx, yc, zi, Option.map_some, Option.map_none, Option.isNone, Option.isSome, Option.getD_none, Option.getD_some, yP, zN, zn, Int.reduceToNat, Int.reduceLE, Int.reduceLT, Int.reduceBNe, Int.reduceBEq, tys, cks, hq1, hq2, hd0, hd0', hz1, hz2, hm1, hm2, Int.natCast_zero, beq_self_eq_true, hx0]
                 rfl
               · simp only [zd, yF, yD, z0, z5, Nat.reduceLT, Nat.reduceEqDiff, decide_true, decide_false, cond_true, cond_false]
                 rfl
               · rfl
               first
               | (apply y6
                  · simp only [za, z0, Nat.reduceLT, decide_true, cond_true, ins]
                    rfl
                  · simp only [za, z0, Nat.reduceLT, decide_true, cond_true, ins]
                    rfl)
               | (apply yt
                  · simp only [za, z0, Nat.reduceLT, decide_true, cond_true, ins]
                    rfl))
            | ((first | apply zZ | apply y5)
               · rfl
               · simp only [za, z0, Nat.reduceLT, decide_true, cond_true, ins]
                 rfl)
            | (apply zY
               · simp only [z6, get, z5, Nat.reduceEqDiff, decide_true, decide_false, cond_true, cond_false])
            | (apply zA
               · simp only [z6, get, z5, Nat.reduceEqDiff, decide_true, decide_false, cond_true, cond_false])
            | (apply yq
               · kernel_rfl
               · kernel_rfl)
            | (simp only [bW, if_true, Nat.reduceEqDiff, if_false])
          all_goals try simp only [xf, finF, yI, yX, zl, get, zG, z5, Nat.reduceEqDiff, decide_true, decide_false, cond_true, cond_false, yV, snapAll, zy, List.getElem?_cons_zero, List.getElem?_cons_succ, bP, Ty.isAgg, if_true, if_false, Bool.false_eq_true, Nat.zero_add, Nat.add_zero, List.length_cons, List.length_nil, Nat.reduceAdd, Nat.reduceLeDiff, List.take, List.drop, Bool.true_and, Bool.and_self, Nat.le_refl, List.map_cons, List.length_map, List.append_nil, List.nil_append, List.cons_append, Nat.sub_zero, bO, bS, tys, Tryd.f23]
          all_goals first | done | rfl | (simp_all []; done) | trace_state

        · have hy0 : (((n' % d' : Nat) : Int) == 0) = false := by simp; omega
          have hr := ih d' (n' % d') d (n % d) (by omega) hy hx (by omega) (by omega) (by omega) (by omega)
          refine yR (yG 23) cfn23 rfl (n := 58) rfl ?_
          skip
          simp only [bW, if_true, Nat.reduceEqDiff, if_false, yJ]
          repeat' first
            | (intro hb; first | cases hb | skip)
            | ((first | apply zB | apply y7)
               · rfl
               · simp (disch := assumption) only [yx, z6, get, z5, z0, Nat.reduceEqDiff, decide_true, decide_false, cond_true, cond_false, yk, zr, zI, yg, zF, Bool.and_true, Bool.true_and, Bool.and_self, Bool.and_false, Bool.false_and, Bool.or_false, Bool.or_true, Bool.false_or, Bool.true_or, Bool.not_true, Bool.not_false, if_true, ye, List.length_cons, List.length_nil, yy, yb, z7, zu, zt, zl, List.getElem?_cons_zero, List.getElem?_cons_succ, Nat.reduceAdd, Nat.zero_add, Nat.add_zero, Nat.one_ne_zero, zT, zs, zp, yC, zG, bP, Ty.isAgg, yB, zX, zR, zm, yh, zh, zV, yj, zg, ofV, zQ, zS, Bool.false_eq_true, if_false, Nat.reduceLeDiff, Nat.reduceLT, List.take, List.drop, List.map_cons, List.map_nil, List.append_nil, List.nil_append, List.cons_append, List.set, unD, yf, snapAll, zy, yi, zJ, zj, yE, z8, zw, ym, zU, Int.toNat_natCast, Int.natCast_nonneg, Int.toNat_zero, Int.le_refl, Nat.reduceMul, Nat.zero_mul, Nat.mul_zero, yl, zc, zW, zq, zb, zf, yA, eqD, zo, zK, yp, zH, zk, Nat.le_refl, Array.toList_map, List.size_toArray, List.getElem?_toArray, Nat.sub_zero, List.length_append, Nat.mul_one, zv, yo, bO, bS, z9, ze, zC, List.replicate, zE, zD, y9, allOk, yu, y8, newRow, yM, List.isEmpty, Bool.not_false, Bool.not_true, decide_eq_true_eq, zM, zP, zO, zz, zx, yc, zi, Option.map_some, Option.map_none, Option.isNone, Option.isSome, Option.getD_none, Option.getD_some, yP, zN, zn, Int.reduceToNat, Int.reduceLE, Int.reduceLT, Int.reduceBNe, Int.reduceBEq, tys, cks, hq1, hq2, hd0, hd0', hz1, hz2, hm1, hm2, hx0, hy0, hr]
                 rfl
               · simp only [zd, yF, yD, z0, z5, Nat.reduceLT, Nat.reduceEqDiff, decide_true, decide_false, cond_true, cond_false]
                 rfl
               · rfl
               first
               | (apply y6
                  · simp only [za, z0, Nat.reduceLT, decide_true, cond_true, ins]
                    rfl
                  · simp only [za, z0, Nat.reduceLT, decide_true, cond_true, ins]
                    rfl)
               | (apply yt
                  · simp only [za, z0, Nat.reduceLT, decide_true, cond_true, ins]
                    rfl))
            | ((first | apply zZ | apply y5)
               · rfl
               · simp only [za, z0, Nat.reduceLT, decide_true, cond_true, ins]
                 rfl)
            | (apply zY
               · simp only [z6, get, z5, Nat.reduceEqDiff, decide_true, decide_false, cond_true, cond_false])
            | (apply zA
               · simp only [z6, get, z5, Nat.reduceEqDiff, decide_true, decide_false, cond_true, cond_false])
            | (apply yq
               · kernel_rfl
               · kernel_rfl)
            | (simp only [bW, if_true, Nat.reduceEqDiff, if_false])
          all_goals try simp only [xf, finF, yI, yX, zl, get, zG, z5, Nat.reduceEqDiff, decide_true, decide_false, cond_true, cond_false, yV, snapAll, zy, List.getElem?_cons_zero, List.getElem?_cons_succ, bP, Ty.isAgg, if_true, if_false, Bool.false_eq_true, Nat.zero_add, Nat.add_zero, List.length_cons, List.length_nil, Nat.reduceAdd, Nat.reduceLeDiff, List.take, List.drop, Bool.true_and, Bool.and_self, Nat.le_refl, List.map_cons, List.length_map, List.append_nil, List.nil_append, List.cons_append, Nat.sub_zero, bO, bS, tys, Tryd.f23]
          all_goals first | done | rfl | (simp_all []; done) | trace_state

    · have hz1 : (((n / d : Nat) : Int) < ((n' / d' : Nat) : Int)) = False := by simp only [eq_iff_iff, iff_false]; omega
      have hz2 : (((n / d : Nat) : Int) > ((n' / d' : Nat) : Int)) = True := by simp only [eq_iff_iff, iff_true]; omega
      rw [cmpI_pos (by have := quo_lt hd' hd hq; rw [← Int.natCast_mul, ← Int.natCast_mul]; omega)]
      refine yR (yG 23) cfn23 rfl (n := 58) rfl ?_
      skip
      simp only [bW, if_true, Nat.reduceEqDiff, if_false, yJ]
      repeat' first
        | (intro hb; first | cases hb | skip)
        | ((first | apply zB | apply y7)
           · rfl
           · simp (disch := assumption) only [yx, z6, get, z5, z0, Nat.reduceEqDiff, decide_true, decide_false, cond_true, cond_false, yk, zr, zI, yg, zF, Bool.and_true, Bool.true_and, Bool.and_self, Bool.and_false, Bool.false_and, Bool.or_false, Bool.or_true, Bool.false_or, Bool.true_or, Bool.not_true, Bool.not_false, if_true, ye, List.length_cons, List.length_nil, yy, yb, z7, zu, zt, zl, List.getElem?_cons_zero, List.getElem?_cons_succ, Nat.reduceAdd, Nat.zero_add, Nat.add_zero, Nat.one_ne_zero, zT, zs, zp, yC, zG, bP, Ty.isAgg, yB, zX, zR, zm, yh, zh, zV, yj, zg, ofV, zQ, zS, Bool.false_eq_true, if_false, Nat.reduceLeDiff, Nat.reduceLT, List.take, List.drop, List.map_cons, List.map_nil, List.append_nil, List.nil_append, List.cons_append, List.set, unD, yf, snapAll, zy, yi, zJ, zj, yE, z8, zw, ym, zU, Int.toNat_natCast, Int.natCast_nonneg, Int.toNat_zero, Int.le_refl, Nat.reduceMul, Nat.zero_mul, Nat.mul_zero, yl, zc, zW, zq, zb, zf, yA, eqD, zo, zK, yp, zH, zk, Nat.le_refl, Array.toList_map, List.size_toArray, List.getElem?_toArray, Nat.sub_zero, List.length_append, Nat.mul_one, zv, yo, bO, bS, z9, ze, zC, List.replicate, zE, zD, y9, allOk, yu, y8, newRow, yM, List.isEmpty, Bool.not_false, Bool.not_true, decide_eq_true_eq, zM, zP, zO, zz, zx, yc, zi, Option.map_some, Option.map_none, Option.isNone, Option.isSome, Option.getD_none, Option.getD_some, yP, zN, zn, Int.reduceToNat, Int.reduceLE, Int.reduceLT, Int.reduceBNe, Int.reduceBEq, tys, cks, hq1, hq2, hd0, hd0', hz1, hz2]
             rfl
           · simp only [zd, yF, yD, z0, z5, Nat.reduceLT, Nat.reduceEqDiff, decide_true, decide_false, cond_true, cond_false]
             rfl
           · rfl
           first
           | (apply y6
              · simp only [za, z0, Nat.reduceLT, decide_true, cond_true, ins]
                rfl
              · simp only [za, z0, Nat.reduceLT, decide_true, cond_true, ins]
                rfl)
           | (apply yt
              · simp only [za, z0, Nat.reduceLT, decide_true, cond_true, ins]
                rfl))
        | ((first | apply zZ | apply y5)
           · rfl
           · simp only [za, z0, Nat.reduceLT, decide_true, cond_true, ins]
             rfl)
        | (apply zY
           · simp only [z6, get, z5, Nat.reduceEqDiff, decide_true, decide_false, cond_true, cond_false])
        | (apply zA
           · simp only [z6, get, z5, Nat.reduceEqDiff, decide_true, decide_false, cond_true, cond_false])
        | (apply yq
           · kernel_rfl
           · kernel_rfl)
        | (simp only [bW, if_true, Nat.reduceEqDiff, if_false])
      all_goals try simp only [xf, finF, yI, yX, zl, get, zG, z5, Nat.reduceEqDiff, decide_true, decide_false, cond_true, cond_false, yV, snapAll, zy, List.getElem?_cons_zero, List.getElem?_cons_succ, bP, Ty.isAgg, if_true, if_false, Bool.false_eq_true, Nat.zero_add, Nat.add_zero, List.length_cons, List.length_nil, Nat.reduceAdd, Nat.reduceLeDiff, List.take, List.drop, Bool.true_and, Bool.and_self, Nat.le_refl, List.map_cons, List.length_map, List.append_nil, List.nil_append, List.cons_append, Nat.sub_zero, bO, bS, tys, Tryd.f23]
      all_goals first | done | rfl | (simp_all []; done) | trace_state


theorem t77 (n lo hi : Int) : (lim cfg).pure 77 [I n, I lo, I hi] = some (B (decide (lo ≤ n) && decide (n ≤ hi))) := by
  refine yR (yG 77) cfn77 rfl (n := 15) rfl ?_
  simp only [bW, if_true, Nat.reduceEqDiff, if_false, yJ]
  repeat' first
    | (intro hb; first | cases hb | skip)
    | ((first | apply zB | apply y7)
       · rfl
       · simp (disch := assumption) only [yx, z6, get, z5, z0, Nat.reduceEqDiff, decide_true, decide_false, cond_true, cond_false, yk, zr, zI, yg, zF, Bool.and_true, Bool.true_and, Bool.and_self, Bool.and_false, Bool.false_and, Bool.or_false, Bool.or_true, Bool.false_or, Bool.true_or, Bool.not_true, Bool.not_false, if_true, ye, List.length_cons, List.length_nil, yy, yb, z7, zu, zt, zl, List.getElem?_cons_zero, List.getElem?_cons_succ, Nat.reduceAdd, Nat.zero_add, Nat.add_zero, Nat.one_ne_zero, zT, zs, zp, yC, zG, bP, Ty.isAgg, yB, zX, zR, zm, yh, zh, zV, yj, zg, ofV, zQ, zS, Bool.false_eq_true, if_false, Nat.reduceLeDiff, Nat.reduceLT, List.take, List.drop, List.map_cons, List.map_nil, List.append_nil, List.nil_append, List.cons_append, List.set, unD, yf, snapAll, zy, yi, zJ, zj, yE, z8, zw, ym, zU, Int.toNat_natCast, Int.natCast_nonneg, Int.toNat_zero, Int.le_refl, Nat.reduceMul, Nat.zero_mul, Nat.mul_zero, yl, zc, zW, zq, zb, zf, yA, eqD, zo, zK, yp, zH, zk, Nat.le_refl, Array.toList_map, List.size_toArray, List.getElem?_toArray, Nat.sub_zero, List.length_append, Nat.mul_one, zv, yo, bO, bS, z9, ze, zC, List.replicate, zE, zD, y9, allOk, yu, y8, newRow, yM, List.isEmpty, Bool.not_false, Bool.not_true, decide_eq_true_eq, zM, zP, zO, zz, zx, yc, zi, Option.map_some, Option.map_none, Option.isNone, Option.isSome, Option.getD_none, Option.getD_some, yP, zN, zn, Int.reduceToNat, Int.reduceLE, Int.reduceLT, Int.reduceBNe, Int.reduceBEq, tys, cks]
         rfl
       · simp only [zd, yF, yD, z0, z5, Nat.reduceLT, Nat.reduceEqDiff, decide_true, decide_false, cond_true, cond_false]
         rfl
       · rfl
       first
       | (apply y6
          · simp only [za, z0, Nat.reduceLT, decide_true, cond_true, ins]
            rfl
          · simp only [za, z0, Nat.reduceLT, decide_true, cond_true, ins]
            rfl)
       | (apply yt
          · simp only [za, z0, Nat.reduceLT, decide_true, cond_true, ins]
            rfl))
    | ((first | apply zZ | apply y5)
       · rfl
       · simp only [za, z0, Nat.reduceLT, decide_true, cond_true, ins]
         rfl)
    | (apply zY
       · simp only [z6, get, z5, Nat.reduceEqDiff, decide_true, decide_false, cond_true, cond_false])
    | (apply zA
       · simp only [z6, get, z5, Nat.reduceEqDiff, decide_true, decide_false, cond_true, cond_false])
    | (apply yq
       · kernel_rfl
       · kernel_rfl)
    | (simp only [bW, if_true, Nat.reduceEqDiff, if_false])
  all_goals simp only [xf, finF, yI, yX, zl, get, zG, z5, Nat.reduceEqDiff, decide_true, decide_false, cond_true, cond_false, yV, snapAll, zy, List.getElem?_cons_zero, List.getElem?_cons_succ, bP, Ty.isAgg, if_true, if_false, Bool.false_eq_true, Nat.zero_add, Nat.add_zero, List.length_cons, List.length_nil, Nat.reduceAdd, Nat.reduceLeDiff, List.take, List.drop, Bool.true_and, Bool.and_self, Nat.le_refl, List.map_cons, List.length_map, List.append_nil, List.nil_append, List.cons_append, Nat.sub_zero, bO, bS, tys, Tryd.f77]
  all_goals first | rfl | (simp_all []; done) | (simp_all []; intros; omega)

theorem t76 (a : Ratio) : (lim cfg).pure 76 [encR a] = some (B (ratioOK a)) := by
  refine yR (yG 76) cfn76 rfl (n := 11) rfl ?_
  simp only [bW, if_true, Nat.reduceEqDiff, if_false, yJ]
  repeat' first
    | (intro hb; first | cases hb | skip)
    | ((first | apply zB | apply y7)
       · rfl
       · simp (disch := assumption) only [yx, z6, get, z5, z0, Nat.reduceEqDiff, decide_true, decide_false, cond_true, cond_false, yk, zr, zI, yg, zF, Bool.and_true, Bool.true_and, Bool.and_self, Bool.and_false, Bool.false_and, Bool.or_false, Bool.or_true, Bool.false_or, Bool.true_or, Bool.not_true, Bool.not_false, if_true, ye, List.length_cons, List.length_nil, yy, yb, z7, zu, zt, zl, List.getElem?_cons_zero, List.getElem?_cons_succ, Nat.reduceAdd, Nat.zero_add, Nat.add_zero, Nat.one_ne_zero, zT, zs, zp, yC, zG, bP, Ty.isAgg, yB, zX, zR, zm, yh, zh, zV, yj, zg, ofV, zQ, zS, Bool.false_eq_true, if_false, Nat.reduceLeDiff, Nat.reduceLT, List.take, List.drop, List.map_cons, List.map_nil, List.append_nil, List.nil_append, List.cons_append, List.set, unD, yf, snapAll, zy, yi, zJ, zj, yE, z8, zw, ym, zU, Int.toNat_natCast, Int.natCast_nonneg, Int.toNat_zero, Int.le_refl, Nat.reduceMul, Nat.zero_mul, Nat.mul_zero, yl, zc, zW, zq, zb, zf, yA, eqD, zo, zK, yp, zH, zk, Nat.le_refl, Array.toList_map, List.size_toArray, List.getElem?_toArray, Nat.sub_zero, List.length_append, Nat.mul_one, zv, yo, bO, bS, z9, ze, zC, List.replicate, zE, zD, y9, allOk, yu, y8, newRow, yM, List.isEmpty, Bool.not_false, Bool.not_true, decide_eq_true_eq, zM, zP, zO, zz, zx, yc, zi, Option.map_some, Option.map_none, Option.isNone, Option.isSome, Option.getD_none, Option.getD_some, yP, zN, zn, Int.reduceToNat, Int.reduceLE, Int.reduceLT, Int.reduceBNe, Int.reduceBEq, tys, cks, t77, encR]
         rfl
       · simp only [zd, yF, yD, z0, z5, Nat.reduceLT, Nat.reduceEqDiff, decide_true, decide_false, cond_true, cond_false]
         rfl
       · rfl
       first
       | (apply y6
          · simp only [za, z0, Nat.reduceLT, decide_true, cond_true, ins]
            rfl
          · simp only [za, z0, Nat.reduceLT, decide_true, cond_true, ins]
            rfl)
       | (apply yt
          · simp only [za, z0, Nat.reduceLT, decide_true, cond_true, ins]
            rfl))
    | ((first | apply zZ | apply y5)
       · rfl
       · simp only [za, z0, Nat.reduceLT, decide_true, cond_true, ins]
         rfl)
    | (apply zY
       · simp only [z6, get, z5, Nat.reduceEqDiff, decide_true, decide_false, cond_true, cond_false])
    | (apply zA
       · simp only [z6, get, z5, Nat.reduceEqDiff, decide_true, decide_false, cond_true, cond_false])
    | (apply yq
       · kernel_rfl
       · kernel_rfl)
    | (simp only [bW, if_true, Nat.reduceEqDiff, if_false])
  all_goals simp only [xf, finF, yI, yX, zl, get, zG, z5, Nat.reduceEqDiff, decide_true, decide_false, cond_true, cond_false, yV, snapAll, zy, List.getElem?_cons_zero, List.getElem?_cons_succ, bP, Ty.isAgg, if_true, if_false, Bool.false_eq_true, Nat.zero_add, Nat.add_zero, List.length_cons, List.length_nil, Nat.reduceAdd, Nat.reduceLeDiff, List.take, List.drop, Bool.true_and, Bool.and_self, Nat.le_refl, List.map_cons, List.length_map, List.append_nil, List.nil_append, List.cons_append, Nat.sub_zero, bO, bS, tys, Tryd.f76]
  all_goals first | rfl | (simp_all [ratioOK]; done) | (simp_all [ratioOK]; intros; omega)

end Go.VS
namespace Go.VS
open Go Go.Proofs
set_option maxHeartbeats 0
set_option linter.unusedSimpArgs false

theorem rat_nat {n : Int} (h : 0 ≤ n) : ∃ k : Nat, n = k := Int.eq_ofNat_of_zero_le h
theorem t23r (a b : Ratio) (ha : ratioOK a = true) (hb : ratioOK b = true) : (lim cfg).pure 23 [.agg [I a.n, I a.d], .agg [I b.n, I b.d]] = some (I (cmpR a b)) := by
  obtain ⟨an, ad⟩ := a
  obtain ⟨bn, bd⟩ := b
  simp only [ratioOK, Bool.and_eq_true, decide_eq_true_eq] at ha hb
  obtain ⟨x1, rfl⟩ := rat_nat (show 0 ≤ an by omega)
  obtain ⟨x2, rfl⟩ := rat_nat (show 0 ≤ ad by omega)
  obtain ⟨x3, rfl⟩ := rat_nat (show 0 ≤ bn by omega)
  obtain ⟨x4, rfl⟩ := rat_nat (show 0 ≤ bd by omega)
  exact t23 _ x1 x2 x3 x4 (Nat.le_refl _) (by omega) (by omega) (by omega) (by omega) (by omega) (by omega)

theorem t27 (a b : Ratio)  : (lim cfg).pure 27 [encR a, encR b] = some (.tup (if ratioOK a && ratioOK b then [I (cmpR a b), I 0] else [I 0, I 1])) := by
  have t76' := fun (r : Ratio) => t76 r
  simp only [encR] at t76'
  refine yR (yG 27) cfn27 rfl (n := 17) rfl ?_
  simp only [bW, if_true, Nat.reduceEqDiff, if_false, yJ]
  repeat' first
    | (intro hb; first | cases hb | skip)
    | ((first | apply zB | apply y7)
       · rfl
       · simp (disch := assumption) only [yx, z6, get, z5, z0, Nat.reduceEqDiff, decide_true, decide_false, cond_true, cond_false, yk, zr, zI, yg, zF, Bool.and_true, Bool.true_and, Bool.and_self, Bool.and_false, Bool.false_and, Bool.or_false, Bool.or_true, Bool.false_or, Bool.true_or, Bool.not_true, Bool.not_false, if_true, ye, List.length_cons, List.length_nil, yy, yb, z7, zu, zt, zl, List.getElem?_cons_zero, List.getElem?_cons_succ, Nat.reduceAdd, Nat.zero_add, Nat.add_zero, Nat.one_ne_zero, zT, zs, zp, yC, zG, bP, Ty.isAgg, yB, zX, zR, zm, yh, zh, zV, yj, zg, ofV, zQ, zS, Bool.false_eq_true, if_false, Nat.reduceLeDiff, Nat.reduceLT, List.take, List.drop, List.map_cons, List.map_nil, List.append_nil, List.nil_append, List.cons_append, List.set, unD, yf, snapAll, zy, yi, zJ, zj, yE, z8, zw, ym, zU, Int.toNat_natCast, Int.natCast_nonneg, Int.toNat_zero, Int.le_refl, Nat.reduceMul, Nat.zero_mul, Nat.mul_zero, yl, zc, zW, zq, zb, zf, yA, eqD, zo, zK, yp, zH, zk, Nat.le_refl, Array.toList_map, List.size_toArray, List.getElem?_toArray, Nat.sub_zero, List.length_append, Nat.mul_one, zv, yo, bO, bS, z9, ze, zC, List.replicate, zE, zD, y9, allOk, yu, y8, newRow, yM, List.isEmpty, Bool.not_false, Bool.not_true, decide_eq_true_eq, zM, zP, zO, zz, zx, yc, zi, Option.map_some, Option.map_none, Option.isNone, Option.isSome, Option.getD_none, Option.getD_some, yP, zN, zn, Int.reduceToNat, Int.reduceLE, Int.reduceLT, Int.reduceBNe, Int.reduceBEq, tys, cks, t76', encR, t23r]
         rfl
       · simp only [zd, yF, yD, z0, z5, Nat.reduceLT, Nat.reduceEqDiff, decide_true, decide_false, cond_true, cond_false]
         rfl
       · rfl
       first
       | (apply y6
          · simp only [za, z0, Nat.reduceLT, decide_true, cond_true, ins]
            rfl
          · simp only [za, z0, Nat.reduceLT, decide_true, cond_true, ins]
            rfl)
       | (apply yt
          · simp only [za, z0, Nat.reduceLT, decide_true, cond_true, ins]
            rfl))
    | ((first | apply zZ | apply y5)
       · rfl
       · simp only [za, z0, Nat.reduceLT, decide_true, cond_true, ins]
         rfl)
    | (apply zY
       · simp only [z6, get, z5, Nat.reduceEqDiff, decide_true, decide_false, cond_true, cond_false])
    | (apply zA
       · simp only [z6, get, z5, Nat.reduceEqDiff, decide_true, decide_false, cond_true, cond_false])
    | (apply yq
       · kernel_rfl
       · kernel_rfl)
    | (simp only [bW, if_true, Nat.reduceEqDiff, if_false])
  all_goals simp only [xf, finF, yI, yX, zl, get, zG, z5, Nat.reduceEqDiff, decide_true, decide_false, cond_true, cond_false, yV, snapAll, zy, List.getElem?_cons_zero, List.getElem?_cons_succ, bP, Ty.isAgg, if_true, if_false, Bool.false_eq_true, Nat.zero_add, Nat.add_zero, List.length_cons, List.length_nil, Nat.reduceAdd, Nat.reduceLeDiff, List.take, List.drop, Bool.true_and, Bool.and_self, Nat.le_refl, List.map_cons, List.length_map, List.append_nil, List.nil_append, List.cons_append, Nat.sub_zero, bO, bS, tys, Tryd.f27]
  all_goals first | rfl | (simp_all []; done) | (simp_all []; intros; omega)

noncomputable def lp28_4 : Code := x8 [1, 1, 0, 1, 0, 0] (yN Tryd.f28)
theorem lk28_4 : cfg.keep 28 (yT lp28_4) = [1, 3] := by kernel_rfl
noncomputable def lp28_10 : Code := x8 [1, 1, 1, 0, 1, 0, 0] (yN Tryd.f28)
theorem lk28_10 : cfg.keep 28 (yT lp28_10) = [1, 5] := by kernel_rfl

theorem L28_4 {F : Exit → St → Option D} (p : Paper) (k : List Kt) (x : D) (hwf : p.wf) (hsh : IntKind.i64.wrap (p.sheets - 1) = p.sheets - 1) (hk : ∀ st, get st.tmps 2 = I 30 → yZ cfg (lim cfg) 28 F k .ret st = some (I 30)) : ∀ (rest : List Mark) (i : Nat), p.marks.drop i = rest → i ≤ p.marks.length →
    ((∀ m ∈ rest, markOK p m = true) → yZ cfg (lim cfg) 28 F k (.exit 0) ⟨140, [(27, B false), (26, I p.marks.length), (25, .sl p.nm (p.marks.map encM) 5 none), (24, .lref 0 0 3 1), (23, I (p.marks.length : Nat)), (1, .lref 0 0 3 0), (3, I (p.marks.length : Nat))], [(0, ⟨[yW p], 3, false⟩)], 1, 0⟩ = some x) →
    ((∃ m ∈ rest, markOK p m = false) → x = I 30) →
    EvL cfg (lim cfg) 28 F lp28_4 k ⟨140, [(1, .lref 0 0 3 0), (3, I (i : Nat))], [(0, ⟨[yW p], 3, false⟩)], 1, 0⟩ = some x := by
  have hl := len_if (f := encM) hwf.1
  intro rest
  induction rest with
  | nil =>
    intro i hd hi h1 h0
    have hi' : i = p.marks.length := by
      have := List.drop_eq_nil_iff.1 hd
      omega
    subst hi'
    refine yw ?_
    try dsimp only [lp28_4, x8, yN, Tryd.f28]
    simp only [bW, if_true, Nat.reduceEqDiff, if_false]
    repeat' first
      | (intro hb; first | cases hb | skip)
      | ((first | apply zB | apply y7)
         · rfl
         · simp (disch := assumption) only [yx, z6, get, z5, z0, Nat.reduceEqDiff, decide_true, decide_false, cond_true, cond_false, yk, zr, zI, yg, zF, Bool.and_true, Bool.true_and, Bool.and_self, Bool.and_false, Bool.false_and, Bool.or_false, Bool.or_true, Bool.false_or, Bool.true_or, Bool.not_true, Bool.not_false, if_true, ye, List.length_cons, List.length_nil, yy, yb, z7, zu, zt, zl, List.getElem?_cons_zero, List.getElem?_cons_succ, Nat.reduceAdd, Nat.zero_add, Nat.add_zero, Nat.one_ne_zero, zT, zs, zp, yC, zG, bP, Ty.isAgg, yB, zX, zR, zm, yh, zh, zV, yj, zg, ofV, zQ, zS, Bool.false_eq_true, if_false, Nat.reduceLeDiff, Nat.reduceLT, List.take, List.drop, List.map_cons, List.map_nil, List.append_nil, List.nil_append, List.cons_append, List.set, unD, yf, snapAll, zy, yi, zJ, zj, yE, z8, zw, ym, zU, Int.toNat_natCast, Int.natCast_nonneg, Int.toNat_zero, Int.le_refl, Nat.reduceMul, Nat.zero_mul, Nat.mul_zero, yl, zc, zW, zq, zb, zf, yA, eqD, zo, zK, yp, zH, zk, Nat.le_refl, Array.toList_map, List.size_toArray, List.getElem?_toArray, Nat.sub_zero, List.length_append, Nat.mul_one, zv, yo, bO, bS, z9, ze, zC, List.replicate, zE, zD, y9, allOk, yu, y8, newRow, yM, List.isEmpty, Bool.not_false, Bool.not_true, decide_eq_true_eq, zM, zP, zO, zz, zx, yc, zi, Option.map_some, Option.map_none, Option.isNone, Option.isSome, Option.getD_none, Option.getD_some, yP, zN, zn, Int.reduceToNat, Int.reduceLE, Int.reduceLT, Int.reduceBNe, Int.reduceBEq, tys, cks, hl, Int.lt_irrefl, decide_false]
           rfl
         · simp only [zd, yF, yD, z0, z5, Nat.reduceLT, Nat.reduceEqDiff, decide_true, decide_false, cond_true, cond_false]
           rfl
         · rfl
         first
         | (apply y6
            · simp only [za, z0, Nat.reduceLT, decide_true, cond_true, ins]
              rfl
            · simp only [za, z0, Nat.reduceLT, decide_true, cond_true, ins]
              rfl)
         | (apply yt
            · simp only [za, z0, Nat.reduceLT, decide_true, cond_true, ins]
              rfl))
      | ((first | apply zZ | apply y5)
         · rfl
         · simp only [za, z0, Nat.reduceLT, decide_true, cond_true, ins]
           rfl)
      | (apply zY
         · simp only [z6, get, z5, Nat.reduceEqDiff, decide_true, decide_false, cond_true, cond_false])
      | (apply zA
         · simp only [z6, get, z5, Nat.reduceEqDiff, decide_true, decide_false, cond_true, cond_false])
      | (apply yq
         · kernel_rfl
         · kernel_rfl)
      | (simp only [bW, if_true, Nat.reduceEqDiff, if_false])
    exact h1 (fun m hm => by cases hm)
  | cons m rest ih =>
    intro i hd hi h1 h0
    have hlt : i < p.marks.length := by
      rcases Nat.lt_or_ge i p.marks.length with h | h
      · exact h
      · rw [List.drop_eq_nil_of_le h] at hd; cases hd
    have hm : p.marks[i]? = some m := by rw [← List.head?_drop, hd]; rfl
    have hx : (p.marks.map encM)[i]? = some (.agg [I m.sheet, I m.axis, I m.tru, I m.seen, I m.err]) := by rw [List.getElem?_map, hm]; rfl
    have hnm : p.nm = false := by
      cases h : p.nm with
      | false => rfl
      | true => rw [hwf.1 h] at hlt; cases hlt
    have hlt' : (i : Int) < (p.marks.length : Int) := by omega
    have hlen := hwf.2.2.1
    have hwr : IntKind.i64.wrap ((i : Int) + 1) = ((i + 1 : Nat) : Int) := by rw [wrap_i64 (by omega) (by omega)]; omega
    have hlm : ((p.marks.map encM).length : Int) = (p.marks.length : Int) := by simp
    refine yw ?_
    try dsimp only [lp28_4, x8, yN, Tryd.f28]
    simp only [bW, if_true, Nat.reduceEqDiff, if_false]
    repeat' first
      | (intro hb; first | cases hb | skip)
      | ((first | apply zB | apply y7)
         · rfl
         · simp (disch := assumption) only [yx, z6, get, z5, z0, Nat.reduceEqDiff, decide_true, decide_false, cond_true, cond_false, yk, zr, zI, yg, zF, Bool.and_true, Bool.true_and, Bool.and_self, Bool.and_false, Bool.false_and, Bool.or_false, Bool.or_true, Bool.false_or, Bool.true_or, Bool.not_true, Bool.not_false, if_true, ye, List.length_cons, List.length_nil, yy, yb, z7, zu, zt, zl, List.getElem?_cons_zero, List.getElem?_cons_succ, Nat.reduceAdd, Nat.zero_add, Nat.add_zero, Nat.one_ne_zero, zT, zs, zp, yC, zG, bP, Ty.isAgg, yB, zX, zR, zm, yh, zh, zV, yj, zg, ofV, zQ, zS, Bool.false_eq_true, if_false, Nat.reduceLeDiff, Nat.reduceLT, List.take, List.drop, List.map_cons, List.map_nil, List.append_nil, List.nil_append, List.cons_append, List.set, unD, yf, snapAll, zy, yi, zJ, zj, yE, z8, zw, ym, zU, Int.toNat_natCast, Int.natCast_nonneg, Int.toNat_zero, Int.le_refl, Nat.reduceMul, Nat.zero_mul, Nat.mul_zero, yl, zc, zW, zq, zb, zf, yA, eqD, zo, zK, yp, zH, zk, Nat.le_refl, Array.toList_map, List.size_toArray, List.getElem?_toArray, Nat.sub_zero, List.length_append, Nat.mul_one, zv, yo, bO, bS, z9, ze, zC, List.replicate, zE, zD, y9, allOk, yu, y8, newRow, yM, List.isEmpty, Bool.not_false, Bool.not_true, decide_eq_true_eq, zM, zP, zO, zz, zx, yc, zi, Option.map_some, Option.map_none, Option.isNone, Option.isSome, Option.getD_none, Option.getD_some, yP, zN, zn, Int.reduceToNat, Int.reduceLE, Int.reduceLT, Int.reduceBNe, Int.reduceBEq, tys, cks, hlm, t77, hx, hnm, hlt', hwr, hsh]
           rfl
         · simp only [zd, yF, yD, z0, z5, Nat.reduceLT, Nat.reduceEqDiff, decide_true, decide_false, cond_true, cond_false]
           rfl
         · rfl
         first
         | (apply y6
            · simp only [za, z0, Nat.reduceLT, decide_true, cond_true, ins]
              rfl
            · simp only [za, z0, Nat.reduceLT, decide_true, cond_true, ins]
              rfl)
         | (apply yt
            · simp only [za, z0, Nat.reduceLT, decide_true, cond_true, ins]
              rfl))
      | ((first | apply zZ | apply y5)
         · rfl
         · simp only [za, z0, Nat.reduceLT, decide_true, cond_true, ins]
           rfl)
      | (apply zY
         · simp only [z6, get, z5, Nat.reduceEqDiff, decide_true, decide_false, cond_true, cond_false])
      | (apply zA
         · simp only [z6, get, z5, Nat.reduceEqDiff, decide_true, decide_false, cond_true, cond_false])
      | (apply yq
         · kernel_rfl
         · kernel_rfl)
      | (simp only [bW, if_true, Nat.reduceEqDiff, if_false])
    all_goals first
    | (have hx0 : x = I 30 := h0 ⟨m, List.mem_cons_self, by
         clear ih h1 h0 hk hwf hlm hl
         first | (simp_all [markOK, yY, isAxis, isSeen]; done) | (simp_all [markOK, yY, isAxis, isSeen, IntKind.wrap_i64]; intros; omega)⟩
       subst hx0
       exact hk _ rfl)
    | (refine x7 (st1 := ⟨140, [(1, .lref 0 0 3 0), (3, I (i + 1 : Nat))], [(0, ⟨[yW p], 3, false⟩)], 1, 0⟩) lk28_4 (by kernel_rfl) (ih (i + 1) ?_ hlt (fun ha => h1 ?_) (fun ⟨m', hm', hb'⟩ => h0 ⟨m', List.mem_cons_of_mem _ hm', hb'⟩))
       · rw [← List.drop_drop, hd]; rfl
       · intro m' hm'
         rcases List.mem_cons.1 hm' with rfl | hm'
         · clear ih h1 h0 hk hwf ha hlm hl
           first | (simp_all [markOK, yY, isAxis, isSeen]; done) | (simp_all [markOK, yY, isAxis, isSeen, IntKind.wrap_i64]; omega)
         · exact ha m' hm')

theorem L28_10 {F : Exit → St → Option D} (p : Paper) (k : List Kt) (x : D) (hwf : p.wf) (hsh : IntKind.i64.wrap (p.sheets - 1) = p.sheets - 1) (hk : ∀ st, get st.tmps 2 = I 30 → yZ cfg (lim cfg) 28 F k .ret st = some (I 30)) : ∀ (rest : List Join) (i : Nat), p.joins.drop i = rest → i ≤ p.joins.length →
    ((∀ m ∈ rest, joinOK p m = true) → yZ cfg (lim cfg) 28 F k (.exit 2) ⟨140, [(73, B false), (72, I p.joins.length), (71, .sl p.nj (p.joins.map encJ) 7 none), (70, .lref 0 0 3 2), (69, I (p.joins.length : Nat)), (1, .lref 0 0 3 0), (5, I (p.joins.length : Nat))], [(0, ⟨[yW p], 3, false⟩)], 1, 0⟩ = some x) →
    ((∃ m ∈ rest, joinOK p m = false) → x = I 30) →
    EvL cfg (lim cfg) 28 F lp28_10 k ⟨140, [(1, .lref 0 0 3 0), (5, I (i : Nat))], [(0, ⟨[yW p], 3, false⟩)], 1, 0⟩ = some x := by
  have hl := len_if (f := encJ) hwf.2.1
  intro rest
  induction rest with
  | nil =>
    intro i hd hi h1 h0
    have hi' : i = p.joins.length := by
      have := List.drop_eq_nil_iff.1 hd
      omega
    subst hi'
    refine yw ?_
    try dsimp only [lp28_10, x8, yN, Tryd.f28]
    simp only [bW, if_true, Nat.reduceEqDiff, if_false]
    repeat' first
      | (intro hb; first | cases hb | skip)
      | ((first | apply zB | apply y7)
         · rfl
         · simp (disch := assumption) only [yx, z6, get, z5, z0, Nat.reduceEqDiff, decide_true, decide_false, cond_true, cond_false, yk, zr, zI, yg, zF, Bool.and_true, Bool.true_and, Bool.and_self, Bool.and_false, Bool.false_and, Bool.or_false, Bool.or_true, Bool.false_or, Bool.true_or, Bool.not_true, Bool.not_false, if_true, ye, List.length_cons, List.length_nil, yy, yb, z7, zu, zt, zl, List.getElem?_cons_zero, List.getElem?_cons_succ, Nat.reduceAdd, Nat.zero_add, Nat.add_zero, Nat.one_ne_zero, zT, zs, zp, yC, zG, bP, Ty.isAgg, yB, zX, zR, zm, yh, zh, zV, yj, zg, ofV, zQ, zS, Bool.false_eq_true, if_false, Nat.reduceLeDiff, Nat.reduceLT, List.take, List.drop, List.map_cons, List.map_nil, List.append_nil, List.nil_append, List.cons_append, List.set, unD, yf, snapAll, zy, yi, zJ, zj, yE, z8, zw, ym, zU, Int.toNat_natCast, Int.natCast_nonneg, Int.toNat_zero, Int.le_refl, Nat.reduceMul, Nat.zero_mul, Nat.mul_zero, yl, zc, zW, zq, zb, zf, yA, eqD, zo, zK, yp, zH, zk, Nat.le_refl, Array.toList_map, List.size_toArray, List.getElem?_toArray, Nat.sub_zero, List.length_append, Nat.mul_one, zv, yo, bO, bS, z9, ze, zC, List.replicate, zE, zD, y9, allOk, yu, y8, newRow, yM, List.isEmpty, Bool.not_false, Bool.not_true, decide_eq_true_eq, zM, zP, zO, zz, zx, yc, zi, Option.map_some, Option.map_none, Option.isNone, Option.isSome, Option.getD_none, Option.getD_some, yP, zN, zn, Int.reduceToNat, Int.reduceLE, Int.reduceLT, Int.reduceBNe, Int.reduceBEq, tys, cks, hl, Int.lt_irrefl, decide_false]
           rfl
         · simp only [zd, yF, yD, z0, z5, Nat.reduceLT, Nat.reduceEqDiff, decide_true, decide_false, cond_true, cond_false]
           rfl
         · rfl
         first
         | (apply y6
            · simp only [za, z0, Nat.reduceLT, decide_true, cond_true, ins]
              rfl
            · simp only [za, z0, Nat.reduceLT, decide_true, cond_true, ins]
              rfl)
         | (apply yt
            · simp only [za, z0, Nat.reduceLT, decide_true, cond_true, ins]
              rfl))
      | ((first | apply zZ | apply y5)
         · rfl
         · simp only [za, z0, Nat.reduceLT, decide_true, cond_true, ins]
           rfl)
      | (apply zY
         · simp only [z6, get, z5, Nat.reduceEqDiff, decide_true, decide_false, cond_true, cond_false])
      | (apply zA
         · simp only [z6, get, z5, Nat.reduceEqDiff, decide_true, decide_false, cond_true, cond_false])
      | (apply yq
         · kernel_rfl
         · kernel_rfl)
      | (simp only [bW, if_true, Nat.reduceEqDiff, if_false])
    exact h1 (fun m hm => by cases hm)
  | cons m rest ih =>
    intro i hd hi h1 h0
    have hlt : i < p.joins.length := by
      rcases Nat.lt_or_ge i p.joins.length with h | h
      · exact h
      · rw [List.drop_eq_nil_of_le h] at hd; cases hd
    have hm : p.joins[i]? = some m := by rw [← List.head?_drop, hd]; rfl
    have hx : (p.joins.map encJ)[i]? = some (.agg [I m.a, I m.b, I m.axis, I m.seenA, I m.errA, I m.seenB, I m.errB]) := by rw [List.getElem?_map, hm]; rfl
    have hnm : p.nj = false := by
      cases h : p.nj with
      | false => rfl
      | true => rw [hwf.2.1 h] at hlt; cases hlt
    have hlt' : (i : Int) < (p.joins.length : Int) := by omega
    have hlen := hwf.2.2.2
    have hwr : IntKind.i64.wrap ((i : Int) + 1) = ((i + 1 : Nat) : Int) := by rw [wrap_i64 (by omega) (by omega)]; omega
    have hlm : ((p.joins.map encJ).length : Int) = (p.joins.length : Int) := by simp
    refine yw ?_
    try dsimp only [lp28_10, x8, yN, Tryd.f28]
    simp only [bW, if_true, Nat.reduceEqDiff, if_false]
    repeat' first
      | (intro hb; first | cases hb | skip)
      | ((first | apply zB | apply y7)
         · rfl
         · simp (disch := assumption) only [yx, z6, get, z5, z0, Nat.reduceEqDiff, decide_true, decide_false, cond_true, cond_false, yk, zr, zI, yg, zF, Bool.and_true, Bool.true_and, Bool.and_self, Bool.and_false, Bool.false_and, Bool.or_false, Bool.or_true, Bool.false_or, Bool.true_or, Bool.not_true, Bool.not_false, if_true, ye, List.length_cons, List.length_nil, yy, yb, z7, zu, zt, zl, List.getElem?_cons_zero, List.getElem?_cons_succ, Nat.reduceAdd, Nat.zero_add, Nat.add_zero, Nat.one_ne_zero, zT, zs, zp, yC, zG, bP, Ty.isAgg, yB, zX, zR, zm, yh, zh, zV, yj, zg, ofV, zQ, zS, Bool.false_eq_true, if_false, Nat.reduceLeDiff, Nat.reduceLT, List.take, List.drop, List.map_cons, List.map_nil, List.append_nil, List.nil_append, List.cons_append, List.set, unD, yf, snapAll, zy, yi, zJ, zj, yE, z8, zw, ym, zU, Int.toNat_natCast, Int.natCast_nonneg, Int.toNat_zero, Int.le_refl, Nat.reduceMul, Nat.zero_mul, Nat.mul_zero, yl, zc, zW, zq, zb, zf, yA, eqD, zo, zK, yp, zH, zk, Nat.le_refl, Array.toList_map, List.size_toArray, List.getElem?_toArray, Nat.sub_zero, List.length_append, Nat.mul_one, zv, yo, bO, bS, z9, ze, zC, List.replicate, zE, zD, y9, allOk, yu, y8, newRow, yM, List.isEmpty, Bool.not_false, Bool.not_true, decide_eq_true_eq, zM, zP, zO, zz, zx, yc, zi, Option.map_some, Option.map_none, Option.isNone, Option.isSome, Option.getD_none, Option.getD_some, yP, zN, zn, Int.reduceToNat, Int.reduceLE, Int.reduceLT, Int.reduceBNe, Int.reduceBEq, tys, cks, hlm, t77, hx, hnm, hlt', hwr, hsh]
           rfl
         · simp only [zd, yF, yD, z0, z5, Nat.reduceLT, Nat.reduceEqDiff, decide_true, decide_false, cond_true, cond_false]
           rfl
         · rfl
         first
         | (apply y6
            · simp only [za, z0, Nat.reduceLT, decide_true, cond_true, ins]
              rfl
            · simp only [za, z0, Nat.reduceLT, decide_true, cond_true, ins]
              rfl)
         | (apply yt
            · simp only [za, z0, Nat.reduceLT, decide_true, cond_true, ins]
              rfl))
      | ((first | apply zZ | apply y5)
         · rfl
         · simp only [za, z0, Nat.reduceLT, decide_true, cond_true, ins]
           rfl)
      | (apply zY
         · simp only [z6, get, z5, Nat.reduceEqDiff, decide_true, decide_false, cond_true, cond_false])
      | (apply zA
         · simp only [z6, get, z5, Nat.reduceEqDiff, decide_true, decide_false, cond_true, cond_false])
      | (apply yq
         · kernel_rfl
         · kernel_rfl)
      | (simp only [bW, if_true, Nat.reduceEqDiff, if_false])
    all_goals first
    | (have hx0 : x = I 30 := h0 ⟨m, List.mem_cons_self, by
         clear ih h1 h0 hk hwf hlm hl
         first | (simp_all [joinOK, yY, isAxis, isSeen]; done) | (simp_all [joinOK, yY, isAxis, isSeen, IntKind.wrap_i64]; intros; omega)⟩
       subst hx0
       exact hk _ rfl)
    | (refine x7 (st1 := ⟨140, [(1, .lref 0 0 3 0), (5, I (i + 1 : Nat))], [(0, ⟨[yW p], 3, false⟩)], 1, 0⟩) lk28_10 (by kernel_rfl) (ih (i + 1) ?_ hlt (fun ha => h1 ?_) (fun ⟨m', hm', hb'⟩ => h0 ⟨m', List.mem_cons_of_mem _ hm', hb'⟩))
       · rw [← List.drop_drop, hd]; rfl
       · intro m' hm'
         rcases List.mem_cons.1 hm' with rfl | hm'
         · clear ih h1 h0 hk hwf ha hlm hl
           first | (simp_all [joinOK, yY, isAxis, isSeen]; done) | (simp_all [joinOK, yY, isAxis, isSeen, IntKind.wrap_i64]; omega)
         · exact ha m' hm')

theorem t28 (p : Paper) (hwf : p.wf) : (lim cfg).pure 28 [yW p] = some (I (check p)) := by
  have hlm := len_if (f := encM) hwf.1
  have hlj := len_if (f := encJ) hwf.2.1
  refine yR (yG 28) cfn28 rfl (n := 140) rfl ?_
  generalize hF : xf cfg Tryd.f28 = F
  simp only [bW, if_true, Nat.reduceEqDiff, if_false, yJ]
  have hret : ∀ (v : Int) st, get st.tmps 2 = I v → F .ret st = some (I v) := by
    intro v st h
    subst hF
    simp only [xf, finF, yI, yX, zl, get, zG, z5, Nat.reduceEqDiff, decide_true, decide_false, cond_true, cond_false, yV, snapAll, zy, List.getElem?_cons_zero, List.getElem?_cons_succ, bP, Ty.isAgg, if_true, if_false, Bool.false_eq_true, Nat.zero_add, Nat.add_zero, List.length_cons, List.length_nil, Nat.reduceAdd, Nat.reduceLeDiff, List.take, List.drop, Bool.true_and, Bool.and_self, Nat.le_refl, List.map_cons, List.length_map, List.append_nil, List.nil_append, List.cons_append, Nat.sub_zero, bO, bS, tys, Tryd.f28, h]
  cases hs : decide (1 ≤ p.sheets) && decide (p.sheets ≤ 4) with
  | false =>
    have hx0 : check p = 30 := by simp [check, xc, hs]
    rw [hx0]
    repeat' first
      | (intro hb; first | cases hb | skip)
      | ((first | apply zB | apply y7)
         · rfl
         · simp (disch := assumption) only [yx, z6, get, z5, z0, Nat.reduceEqDiff, decide_true, decide_false, cond_true, cond_false, yk, zr, zI, yg, zF, Bool.and_true, Bool.true_and, Bool.and_self, Bool.and_false, Bool.false_and, Bool.or_false, Bool.or_true, Bool.false_or, Bool.true_or, Bool.not_true, Bool.not_false, if_true, ye, List.length_cons, List.length_nil, yy, yb, z7, zu, zt, zl, List.getElem?_cons_zero, List.getElem?_cons_succ, Nat.reduceAdd, Nat.zero_add, Nat.add_zero, Nat.one_ne_zero, zT, zs, zp, yC, zG, bP, Ty.isAgg, yB, zX, zR, zm, yh, zh, zV, yj, zg, ofV, zQ, zS, Bool.false_eq_true, if_false, Nat.reduceLeDiff, Nat.reduceLT, List.take, List.drop, List.map_cons, List.map_nil, List.append_nil, List.nil_append, List.cons_append, List.set, unD, yf, snapAll, zy, yi, zJ, zj, yE, z8, zw, ym, zU, Int.toNat_natCast, Int.natCast_nonneg, Int.toNat_zero, Int.le_refl, Nat.reduceMul, Nat.zero_mul, Nat.mul_zero, yl, zc, zW, zq, zb, zf, yA, eqD, zo, zK, yp, zH, zk, Nat.le_refl, Array.toList_map, List.size_toArray, List.getElem?_toArray, Nat.sub_zero, List.length_append, Nat.mul_one, zv, yo, bO, bS, z9, ze, zC, List.replicate, zE, zD, y9, allOk, yu, y8, newRow, yM, List.isEmpty, Bool.not_false, Bool.not_true, decide_eq_true_eq, zM, zP, zO, zz, zx, yc, zi, Option.map_some, Option.map_none, Option.isNone, Option.isSome, Option.getD_none, Option.getD_some, yP, zN, zn, Int.reduceToNat, Int.reduceLE, Int.reduceLT, Int.reduceBNe, Int.reduceBEq, tys, cks, t77, hs, hlm, hlj]
           rfl
         · simp only [zd, yF, yD, z0, z5, Nat.reduceLT, Nat.reduceEqDiff, decide_true, decide_false, cond_true, cond_false]
           rfl
         · rfl
         first
         | (apply y6
            · simp only [za, z0, Nat.reduceLT, decide_true, cond_true, ins]
              rfl
            · simp only [za, z0, Nat.reduceLT, decide_true, cond_true, ins]
              rfl)
         | (apply yt
            · simp only [za, z0, Nat.reduceLT, decide_true, cond_true, ins]
              rfl))
      | ((first | apply zZ | apply y5)
         · rfl
         · simp only [za, z0, Nat.reduceLT, decide_true, cond_true, ins]
           rfl)
      | (apply zY
         · simp only [z6, get, z5, Nat.reduceEqDiff, decide_true, decide_false, cond_true, cond_false])
      | (apply zA
         · simp only [z6, get, z5, Nat.reduceEqDiff, decide_true, decide_false, cond_true, cond_false])
      | (apply yq
         · kernel_rfl
         · kernel_rfl)
      | (simp only [bW, if_true, Nat.reduceEqDiff, if_false])
    all_goals exact hret 30 _ rfl
  | true =>
    have hsh : IntKind.i64.wrap (p.sheets - 1) = p.sheets - 1 := by simp at hs; rw [wrap_i64 (by omega) (by omega)]
    repeat' first
      | (intro hb; first | cases hb | skip)
      | ((first | apply zB | apply y7)
         · rfl
         · simp (disch := assumption) only [yx, z6, get, z5, z0, Nat.reduceEqDiff, decide_true, decide_false, cond_true, cond_false, yk, zr, zI, yg, zF, Bool.and_true, Bool.true_and, Bool.and_self, Bool.and_false, Bool.false_and, Bool.or_false, Bool.or_true, Bool.false_or, Bool.true_or, Bool.not_true, Bool.not_false, if_true, ye, List.length_cons, List.length_nil, yy, yb, z7, zu, zt, zl, List.getElem?_cons_zero, List.getElem?_cons_succ, Nat.reduceAdd, Nat.zero_add, Nat.add_zero, Nat.one_ne_zero, zT, zs, zp, yC, zG, bP, Ty.isAgg, yB, zX, zR, zm, yh, zh, zV, yj, zg, ofV, zQ, zS, Bool.false_eq_true, if_false, Nat.reduceLeDiff, Nat.reduceLT, List.take, List.drop, List.map_cons, List.map_nil, List.append_nil, List.nil_append, List.cons_append, List.set, unD, yf, snapAll, zy, yi, zJ, zj, yE, z8, zw, ym, zU, Int.toNat_natCast, Int.natCast_nonneg, Int.toNat_zero, Int.le_refl, Nat.reduceMul, Nat.zero_mul, Nat.mul_zero, yl, zc, zW, zq, zb, zf, yA, eqD, zo, zK, yp, zH, zk, Nat.le_refl, Array.toList_map, List.size_toArray, List.getElem?_toArray, Nat.sub_zero, List.length_append, Nat.mul_one, zv, yo, bO, bS, z9, ze, zC, List.replicate, zE, zD, y9, allOk, yu, y8, newRow, yM, List.isEmpty, Bool.not_false, Bool.not_true, decide_eq_true_eq, zM, zP, zO, zz, zx, yc, zi, Option.map_some, Option.map_none, Option.isNone, Option.isSome, Option.getD_none, Option.getD_some, yP, zN, zn, Int.reduceToNat, Int.reduceLE, Int.reduceLT, Int.reduceBNe, Int.reduceBEq, tys, cks, t77, hs, hlm, hlj]
           rfl
         · simp only [zd, yF, yD, z0, z5, Nat.reduceLT, Nat.reduceEqDiff, decide_true, decide_false, cond_true, cond_false]
           rfl
         · rfl
         first
         | (apply y6
            · simp only [za, z0, Nat.reduceLT, decide_true, cond_true, ins]
              rfl
            · simp only [za, z0, Nat.reduceLT, decide_true, cond_true, ins]
              rfl)
         | (apply yt
            · simp only [za, z0, Nat.reduceLT, decide_true, cond_true, ins]
              rfl))
      | ((first | apply zZ | apply y5)
         · rfl
         · simp only [za, z0, Nat.reduceLT, decide_true, cond_true, ins]
           rfl)
      | (apply zY
         · simp only [z6, get, z5, Nat.reduceEqDiff, decide_true, decide_false, cond_true, cond_false])
      | (apply zA
         · simp only [z6, get, z5, Nat.reduceEqDiff, decide_true, decide_false, cond_true, cond_false])
      | (apply yq
         · kernel_rfl
         · kernel_rfl)
      | (simp only [bW, if_true, Nat.reduceEqDiff, if_false])
    all_goals try exact (by
      have hx0 : check p = 30 := by
        clear hret hF
        first | (simp_all [check, xc]; done) | (simp_all [check, xc]; intros; omega)
      rw [hx0]; exact hret 30 _ rfl)
    refine w_loop (st1 := ⟨140, [(1, .lref 0 0 3 0), (3, I (0 : Nat))], [(0, ⟨[yW p], 3, false⟩)], 1, 0⟩) lk28_4 (by kernel_rfl) (L28_4 p _ _ hwf hsh (fun st h => by simp only [bW, if_true, Nat.reduceEqDiff, if_false]; exact hret 30 st h) p.marks 0 rfl (Nat.zero_le _) (fun hm => ?_) (fun ⟨m, h1, h2⟩ => ?_))
    · simp only [bW, if_true, Nat.reduceEqDiff, if_false]
      repeat' first
        | (intro hb; first | cases hb | skip)
        | ((first | apply zB | apply y7)
           · rfl
           · simp (disch := assumption) only [yx, z6, get, z5, z0, Nat.reduceEqDiff, decide_true, decide_false, cond_true, cond_false, yk, zr, zI, yg, zF, Bool.and_true, Bool.true_and, Bool.and_self, Bool.and_false, Bool.false_and, Bool.or_false, Bool.or_true, Bool.false_or, Bool.true_or, Bool.not_true, Bool.not_false, if_true, ye, List.length_cons, List.length_nil, yy, yb, z7, zu, zt, zl, List.getElem?_cons_zero, List.getElem?_cons_succ, Nat.reduceAdd, Nat.zero_add, Nat.add_zero, Nat.one_ne_zero, zT, zs, zp, yC, zG, bP, Ty.isAgg, yB, zX, zR, zm, yh, zh, zV, yj, zg, ofV, zQ, zS, Bool.false_eq_true, if_false, Nat.reduceLeDiff, Nat.reduceLT, List.take, List.drop, List.map_cons, List.map_nil, List.append_nil, List.nil_append, List.cons_append, List.set, unD, yf, snapAll, zy, yi, zJ, zj, yE, z8, zw, ym, zU, Int.toNat_natCast, Int.natCast_nonneg, Int.toNat_zero, Int.le_refl, Nat.reduceMul, Nat.zero_mul, Nat.mul_zero, yl, zc, zW, zq, zb, zf, yA, eqD, zo, zK, yp, zH, zk, Nat.le_refl, Array.toList_map, List.size_toArray, List.getElem?_toArray, Nat.sub_zero, List.length_append, Nat.mul_one, zv, yo, bO, bS, z9, ze, zC, List.replicate, zE, zD, y9, allOk, yu, y8, newRow, yM, List.isEmpty, Bool.not_false, Bool.not_true, decide_eq_true_eq, zM, zP, zO, zz, zx, yc, zi, Option.map_some, Option.map_none, Option.isNone, Option.isSome, Option.getD_none, Option.getD_some, yP, zN, zn, Int.reduceToNat, Int.reduceLE, Int.reduceLT, Int.reduceBNe, Int.reduceBEq, tys, cks, hlm, hlj]
             rfl
           · simp only [zd, yF, yD, z0, z5, Nat.reduceLT, Nat.reduceEqDiff, decide_true, decide_false, cond_true, cond_false]
             rfl
           · rfl
           first
           | (apply y6
              · simp only [za, z0, Nat.reduceLT, decide_true, cond_true, ins]
                rfl
              · simp only [za, z0, Nat.reduceLT, decide_true, cond_true, ins]
                rfl)
           | (apply yt
              · simp only [za, z0, Nat.reduceLT, decide_true, cond_true, ins]
                rfl))
        | ((first | apply zZ | apply y5)
           · rfl
           · simp only [za, z0, Nat.reduceLT, decide_true, cond_true, ins]
             rfl)
        | (apply zY
           · simp only [z6, get, z5, Nat.reduceEqDiff, decide_true, decide_false, cond_true, cond_false])
        | (apply zA
           · simp only [z6, get, z5, Nat.reduceEqDiff, decide_true, decide_false, cond_true, cond_false])
        | (apply yq
           · kernel_rfl
           · kernel_rfl)
        | (simp only [bW, if_true, Nat.reduceEqDiff, if_false])
      refine w_loop (st1 := ⟨140, [(1, .lref 0 0 3 0), (5, I (0 : Nat))], [(0, ⟨[yW p], 3, false⟩)], 1, 0⟩) lk28_10 (by kernel_rfl) (L28_10 p _ _ hwf hsh (fun st h => by simp only [bW, if_true, Nat.reduceEqDiff, if_false]; exact hret 30 st h) p.joins 0 rfl (Nat.zero_le _) (fun hj => ?_) (fun ⟨m, h1, h2⟩ => ?_))
      · simp only [bW, if_true, Nat.reduceEqDiff, if_false]
        have hx0 : check p = 0 := by
          clear hret hF
          simp_all [check, xc]
          try omega
        rw [hx0]
        repeat' first
          | (intro hb; first | cases hb | skip)
          | ((first | apply zB | apply y7)
             · rfl
             · simp (disch := assumption) only [yx, z6, get, z5, z0, Nat.reduceEqDiff, decide_true, decide_false, cond_true, cond_false, yk, zr, zI, yg, zF, Bool.and_true, Bool.true_and, Bool.and_self, Bool.and_false, Bool.false_and, Bool.or_false, Bool.or_true, Bool.false_or, Bool.true_or, Bool.not_true, Bool.not_false, if_true, ye, List.length_cons, List.length_nil, yy, yb, z7, zu, zt, zl, List.getElem?_cons_zero, List.getElem?_cons_succ, Nat.reduceAdd, Nat.zero_add, Nat.add_zero, Nat.one_ne_zero, zT, zs, zp, yC, zG, bP, Ty.isAgg, yB, zX, zR, zm, yh, zh, zV, yj, zg, ofV, zQ, zS, Bool.false_eq_true, if_false, Nat.reduceLeDiff, Nat.reduceLT, List.take, List.drop, List.map_cons, List.map_nil, List.append_nil, List.nil_append, List.cons_append, List.set, unD, yf, snapAll, zy, yi, zJ, zj, yE, z8, zw, ym, zU, Int.toNat_natCast, Int.natCast_nonneg, Int.toNat_zero, Int.le_refl, Nat.reduceMul, Nat.zero_mul, Nat.mul_zero, yl, zc, zW, zq, zb, zf, yA, eqD, zo, zK, yp, zH, zk, Nat.le_refl, Array.toList_map, List.size_toArray, List.getElem?_toArray, Nat.sub_zero, List.length_append, Nat.mul_one, zv, yo, bO, bS, z9, ze, zC, List.replicate, zE, zD, y9, allOk, yu, y8, newRow, yM, List.isEmpty, Bool.not_false, Bool.not_true, decide_eq_true_eq, zM, zP, zO, zz, zx, yc, zi, Option.map_some, Option.map_none, Option.isNone, Option.isSome, Option.getD_none, Option.getD_some, yP, zN, zn, Int.reduceToNat, Int.reduceLE, Int.reduceLT, Int.reduceBNe, Int.reduceBEq, tys, cks, hlm, hlj]
               rfl
             · simp only [zd, yF, yD, z0, z5, Nat.reduceLT, Nat.reduceEqDiff, decide_true, decide_false, cond_true, cond_false]
               rfl
             · rfl
             first
             | (apply y6
                · simp only [za, z0, Nat.reduceLT, decide_true, cond_true, ins]
                  rfl
                · simp only [za, z0, Nat.reduceLT, decide_true, cond_true, ins]
                  rfl)
             | (apply yt
                · simp only [za, z0, Nat.reduceLT, decide_true, cond_true, ins]
                  rfl))
          | ((first | apply zZ | apply y5)
             · rfl
             · simp only [za, z0, Nat.reduceLT, decide_true, cond_true, ins]
               rfl)
          | (apply zY
             · simp only [z6, get, z5, Nat.reduceEqDiff, decide_true, decide_false, cond_true, cond_false])
          | (apply zA
             · simp only [z6, get, z5, Nat.reduceEqDiff, decide_true, decide_false, cond_true, cond_false])
          | (apply yq
             · kernel_rfl
             · kernel_rfl)
          | (simp only [bW, if_true, Nat.reduceEqDiff, if_false])
        exact hret 0 _ rfl
      · clear hret hF
        have : p.joins.all (joinOK p) = false := by rw [List.all_eq_false]; exact ⟨m, h1, by simp [h2]⟩
        simp [check, xc, this]
    · clear hret hF
      have : p.marks.all (markOK p) = false := by rw [List.all_eq_false]; exact ⟨m, h1, by simp [h2]⟩
      simp [check, xc, this]

end Go.VS
/-
  What factors are asked for: the half and the double, what a mark says, what a join says. (A text of this claim's own; nothing of it is trusted.)
-/
namespace Go.VS
open Go
def okHalf (n d : Int) : Bool := decide (2 * n ≥ d) && decide (n ≤ 2 * d)
def half4 (f : F4) : Bool := okHalf f.xn f.xd && okHalf f.yn f.yd
def markFine (fs : List F4) (m : Mark) : Bool := decide ((yQ fs m.axis (1 + m.sheet)).n * m.tru ≥ (m.seen - m.err) * (yQ fs m.axis (1 + m.sheet)).d) && decide ((yQ fs m.axis (1 + m.sheet)).n * m.tru ≤ (m.seen + m.err) * (yQ fs m.axis (1 + m.sheet)).d)
def joinFine (fs : List F4) (j : Join) : Bool := decide ((yQ fs j.axis (1 + j.a)).n * (yQ fs j.axis (1 + j.b)).d * (j.seenB + j.errB) ≥ (yQ fs j.axis (1 + j.a)).d * (yQ fs j.axis (1 + j.b)).n * (j.seenA - j.errA)) && decide ((yQ fs j.axis (1 + j.a)).n * (yQ fs j.axis (1 + j.b)).d * (j.seenB - j.errB) ≤ (yQ fs j.axis (1 + j.a)).d * (yQ fs j.axis (1 + j.b)).n * (j.seenA + j.errA))
end Go.VS
/-
  What factors are allowed by: the edges, and what is seen. (A text of this claim's own; nothing of it is trusted.)
-/
namespace Go.VS
open Go
theorem marksE_of {ax : Int} {m : Mark} : ∀ {l : List Mark} {i : Nat}, m ∈ l → m.axis = ax → ∃ k, ∀ e ∈ markE m k, e ∈ marksE ax l i
  | [], _, h, _ => by cases h
  | m' :: r, i, h, hax => by
    simp only [marksE, List.mem_append]
    rcases List.mem_cons.1 h with rfl | h
    · exact ⟨i, fun e he => .inl (by rw [if_pos hax]; exact he)⟩
    · obtain ⟨k, hk⟩ := marksE_of (i := i + 1) h hax
      exact ⟨k, fun e he => .inr (hk e he)⟩
theorem joinsE_of {ax : Int} {m : Join} : ∀ {l : List Join} {i : Nat}, m ∈ l → m.axis = ax → ∃ k, ∀ e ∈ joinE m k, e ∈ joinsE ax l i
  | [], _, h, _ => by cases h
  | m' :: r, i, h, hax => by
    simp only [joinsE, List.mem_append]
    rcases List.mem_cons.1 h with rfl | h
    · exact ⟨i, fun e he => .inl (by rw [if_pos hax]; exact he)⟩
    · obtain ⟨k, hk⟩ := joinsE_of (i := i + 1) h hax
      exact ⟨k, fun e he => .inr (hk e he)⟩
theorem factor_one (fs : List F4) (ax : Int) : yQ fs ax 0 = ⟨1, 1⟩ := by simp [yQ, one1]
theorem sheet_fine (fs : List F4) (ax : Int) (i : Nat) : (∀ e ∈ sheetE i, edgeFine fs ax e = true) ↔ okHalf (yQ fs ax (1 + i)).n (yQ fs ax (1 + i)).d = true := by
  simp [sheetE, edgeFine, factor_one, okHalf]
  exact And.comm
theorem mark_fine (fs : List F4) (m : Mark) (k : Nat) : (∀ e ∈ markE m k, edgeFine fs m.axis e = true) ↔ markFine fs m = true := by
  simp [markE, edgeFine, factor_one, markFine]
  rw [Int.mul_comm m.tru]
  exact And.comm
theorem join_fine (fs : List F4) (m : Join) (k : Nat) : (∀ e ∈ joinE m k, edgeFine fs m.axis e = true) ↔ joinFine fs m = true := by
  simp only [joinE, List.mem_cons, List.not_mem_nil, or_false, forall_eq_or_imp, forall_eq, edgeFine, joinFine, Bool.and_eq_true, decide_eq_true_eq, ge_iff_le]
  generalize yQ fs m.axis (1 + m.a) = a
  generalize yQ fs m.axis (1 + m.b) = b
  have e1 : a.n * (m.seenB - m.errB) * b.d = a.n * b.d * (m.seenB - m.errB) := by rw [Int.mul_right_comm]
  have e2 : (m.seenA + m.errA) * b.n * a.d = a.d * b.n * (m.seenA + m.errA) := by rw [Int.mul_comm, ← Int.mul_assoc, Int.mul_right_comm]
  have e3 : b.n * (m.seenA - m.errA) * a.d = a.d * b.n * (m.seenA - m.errA) := by rw [Int.mul_comm, ← Int.mul_assoc]
  have e4 : (m.seenB + m.errB) * a.n * b.d = a.n * b.d * (m.seenB + m.errB) := by rw [Int.mul_assoc, Int.mul_comm]
  rw [e1, e2, e3, e4]
  exact And.comm
theorem fine_iff {p : Paper} {fs : List F4} (hok : xc p = true) (hlen : (fs.length : Int) = p.sheets) :
    (factorsFine p fs 0 && factorsFine p fs 1) = (fs.all half4 && p.marks.all (markFine fs) && p.joins.all (joinFine fs)) := by
  obtain ⟨o1, o2, o3, o4, o5, o6⟩ := paperOK_def hok
  rw [Bool.eq_iff_iff]
  simp only [factorsFine, Bool.and_eq_true, List.all_eq_true]
  have hsheet : ∀ i, i < fs.length → ∃ f, fs[i]? = some f ∧ ∀ ax, yQ fs ax (1 + (i : Int)) = axF f ax := by
    intro i hi
    refine ⟨fs[i], List.getElem?_eq_getElem hi, fun ax => ?_⟩
    unfold yQ
    rw [if_neg (by omega), show (1 + (i : Int) - 1).toNat = i by omega, List.getElem?_eq_getElem hi]
  have hin : ∀ ax i, i < fs.length → ∀ e ∈ sheetE i, e ∈ edges p ax := by
    intro ax i hi e he
    simp only [edges, List.mem_append, List.mem_flatMap, List.mem_range'_1]
    exact .inl (.inl ⟨i, by omega, he⟩)
  constructor
  · rintro ⟨h0, h1⟩
    refine ⟨⟨fun f hf => ?_, fun m hm => ?_⟩, fun m hm => ?_⟩
    · obtain ⟨i, hi⟩ := List.mem_iff_getElem?.1 hf
      have hil := (List.getElem?_eq_some_iff.1 hi).1
      obtain ⟨f', hf', hfa⟩ := hsheet i hil
      rw [hi] at hf'; cases hf'
      have a := (sheet_fine fs 0 i).1 fun e he => h0 e (hin 0 i hil e he)
      have b := (sheet_fine fs 1 i).1 fun e he => h1 e (hin 1 i hil e he)
      rw [hfa] at a b
      simp only [half4, Bool.and_eq_true]
      exact ⟨a, b⟩
    · have hax := o5 m hm
      simp [markOK, isAxis] at hax
      have hmem : ∀ ax, m.axis = ax → ∃ k, ∀ e ∈ markE m k, e ∈ edges p ax := by
        intro ax h
        obtain ⟨k, hk⟩ := marksE_of (i := 0) hm h
        exact ⟨k, fun e he => by simp only [edges, List.mem_append]; exact .inl (.inr (hk e he))⟩
      rcases hax.1.1.1.2 with h | h
      · obtain ⟨k, hk⟩ := hmem 0 h
        exact (mark_fine fs m k).1 fun e he => by rw [h]; exact h0 e (hk e he)
      · obtain ⟨k, hk⟩ := hmem 1 h
        exact (mark_fine fs m k).1 fun e he => by rw [h]; exact h1 e (hk e he)
    · have hax := o6 m hm
      simp [joinOK, isAxis] at hax
      have hmem : ∀ ax, m.axis = ax → ∃ k, ∀ e ∈ joinE m k, e ∈ edges p ax := by
        intro ax h
        obtain ⟨k, hk⟩ := joinsE_of (i := 0) hm h
        exact ⟨k, fun e he => by simp only [edges, List.mem_append]; exact .inr (hk e he)⟩
      have hax2 : m.axis = 0 ∨ m.axis = 1 := by omega
      rcases hax2 with h | h
      · obtain ⟨k, hk⟩ := hmem 0 h
        exact (join_fine fs m k).1 fun e he => by rw [h]; exact h0 e (hk e he)
      · obtain ⟨k, hk⟩ := hmem 1 h
        exact (join_fine fs m k).1 fun e he => by rw [h]; exact h1 e (hk e he)
  · rintro ⟨⟨hh, hm⟩, hj⟩
    have key : ∀ ax : Int, (ax = 0 ∨ ax = 1) → ∀ e ∈ edges p ax, edgeFine fs ax e = true := by
      intro ax hax e he
      simp only [edges, List.mem_append, List.mem_flatMap, List.mem_range'_1] at he
      rcases he with (⟨i, hi, he⟩ | he) | he
      · have hil : i < fs.length := by omega
        obtain ⟨f, hf, hfa⟩ := hsheet i hil
        refine (sheet_fine fs ax i).2 ?_ e he
        rw [hfa]
        have := hh f (List.mem_of_getElem? hf)
        simp only [half4, Bool.and_eq_true] at this
        rcases hax with rfl | rfl
        · exact this.1
        · exact this.2
      · obtain ⟨m, k, h1, h2, h3⟩ := marksE_mem ax he
        rw [← h2]
        exact (mark_fine fs m k).2 (hm m h1) e h3
      · obtain ⟨m, k, h1, h2, h3⟩ := joinsE_mem ax he
        rw [← h2]
        exact (join_fine fs m k).2 (hj m h1) e h3
    exact ⟨key 0 (.inl rfl), key 1 (.inr rfl)⟩
end Go.VS
namespace Go.VS
open Go Go.Proofs
set_option maxHeartbeats 0
set_option linter.unusedSimpArgs false

noncomputable def lp29_7 : Code := x8 [1, 1, 1, 0, 1, 0, 0] (yN Tryd.f29)
theorem lk29_7 : cfg.keep 29 (yT lp29_7) = [1, 2, 6] := by kernel_rfl
noncomputable def lp29_12 : Code := x8 [1, 1, 1, 1, 0, 1, 0, 0] (yN Tryd.f29)
theorem lk29_12 : cfg.keep 29 (yT lp29_12) = [1, 2, 7] := by kernel_rfl
noncomputable def lp29_15 : Code := x8 [1, 1, 1, 1, 0, 1, 0, 0, 1, 0, 0, 1, 0, 0] (yN Tryd.f29)
theorem lk29_15 : cfg.keep 29 (yT lp29_15) = [1, 2, 7, 8] := by kernel_rfl
noncomputable def lp29_20 : Code := x8 [1, 1, 1, 1, 1, 0, 1, 0, 0] (yN Tryd.f29)
theorem lk29_20 : cfg.keep 29 (yT lp29_20) = [1, 2, 9] := by kernel_rfl
noncomputable def lp29_26 : Code := x8 [1, 1, 1, 1, 1, 1, 0, 1, 0, 0] (yN Tryd.f29)
theorem lk29_26 : cfg.keep 29 (yT lp29_26) = [1, 2, 11] := by kernel_rfl

theorem t23i (n d n' d' : Int) (h1 : 0 ≤ n) (h2 : n < 9223372036854775808) (h3 : 1 ≤ d) (h4 : d < 9223372036854775808) (h5 : 0 ≤ n') (h6 : n' < 9223372036854775808) (h7 : 1 ≤ d') (h8 : d' < 9223372036854775808) : (lim cfg).pure 23 [.agg [I n, I d], .agg [I n', I d']] = some (I (cmpI (n * d') (n' * d))) := by
  obtain ⟨x1, rfl⟩ := rat_nat (show 0 ≤ n by omega)
  obtain ⟨x2, rfl⟩ := rat_nat (show 0 ≤ d by omega)
  obtain ⟨x3, rfl⟩ := rat_nat (show 0 ≤ n' by omega)
  obtain ⟨x4, rfl⟩ := rat_nat (show 0 ≤ d' by omega)
  exact t23 _ x1 x2 x3 x4 (Nat.le_refl _) (by omega) (by omega) (by omega) (by omega) (by omega) (by omega)
theorem cmpI_lt0 (a b : Int) : (cmpI a b < 0) = (a < b) := by
  unfold cmpI; simp only [eq_iff_iff]
  split
  · omega
  · split <;> omega
theorem cmpI_gt0 (a b : Int) : (cmpI a b > 0) = (b < a) := by
  unfold cmpI; simp only [eq_iff_iff]
  split
  · omega
  · split <;> omega
theorem cmpI_ge0 (a b : Int) : (cmpI a b ≥ 0) = (b ≤ a) := by
  unfold cmpI; simp only [eq_iff_iff]
  split
  · omega
  · split <;> omega
theorem cmpI_le0 (a b : Int) : (cmpI a b ≤ 0) = (a ≤ b) := by
  unfold cmpI; simp only [eq_iff_iff]
  split
  · omega
  · split <;> omega
theorem mulB {a b : Int} (h1 : 0 ≤ a) (h2 : a ≤ 2000) (h3 : 0 ≤ b) (h4 : b ≤ 1125899906842624) : 0 ≤ a * b ∧ a * b < 9223372036854775808 ∧ IntKind.i64.wrap (a * b) = a * b := by
  have h5 := Int.mul_nonneg h1 h3
  have h6 : a * b ≤ 2000 * 1125899906842624 := Int.mul_le_mul h2 h4 h3 (by omega)
  exact ⟨h5, by omega, wrap_i64 (by omega) (by omega)⟩

theorem t78 (n d t lo hi : Int) (h1 : 1 ≤ n) (h2 : n ≤ 1125899906842624) (h3 : 1 ≤ d) (h4 : d ≤ 1125899906842624) (h5 : 0 ≤ t) (h6 : t ≤ 2000) (h7 : 0 ≤ lo) (h8 : lo ≤ 2000) (h9 : 0 ≤ hi) (h10 : hi ≤ 2000) : (lim cfg).pure 78 [.agg [I n, I d], I t, I lo, I hi] = some (B (decide (n * t ≥ lo * d) && decide (n * t ≤ hi * d))) := by
  obtain ⟨b1, b2, b3⟩ := mulB h5 h6 (show 0 ≤ n by omega) h2
  rw [Int.mul_comm] at b1 b2 b3
  have hw := b3
  have e1 := t23i (n * t) d lo 1 b1 b2 h3 (by omega) h7 (by omega) (by omega) (by omega)
  have e2 := t23i (n * t) d hi 1 b1 b2 h3 (by omega) h9 (by omega) (by omega) (by omega)
  simp only [Int.mul_one] at e1 e2
  refine yR (yG 78) cfn78 rfl (n := 29) rfl ?_
  simp only [bW, if_true, Nat.reduceEqDiff, if_false, yJ]
  repeat' first
    | (intro hb; first | cases hb | skip)
    | ((first | apply zB | apply y7)
       · rfl
       · simp (disch := assumption) only [yx, z6, get, z5, z0, Nat.reduceEqDiff, decide_true, decide_false, cond_true, cond_false, yk, zr, zI, yg, zF, Bool.and_true, Bool.true_and, Bool.and_self, Bool.and_false, Bool.false_and, Bool.or_false, Bool.or_true, Bool.false_or, Bool.true_or, Bool.not_true, Bool.not_false, if_true, ye, List.length_cons, List.length_nil, yy, yb, z7, zu, zt, zl, List.getElem?_cons_zero, List.getElem?_cons_succ, Nat.reduceAdd, Nat.zero_add, Nat.add_zero, Nat.one_ne_zero, zT, zs, zp, yC, zG, bP, Ty.isAgg, yB, zX, zR, zm, yh, zh, zV, yj, zg, ofV, zQ, zS, Bool.false_eq_true, if_false, Nat.reduceLeDiff, Nat.reduceLT, List.take, List.drop, List.map_cons, List.map_nil, List.append_nil, List.nil_append, List.cons_append, List.set, unD, yf, snapAll, zy, yi, zJ, zj, yE, z8, zw, ym, zU, Int.toNat_natCast, Int.natCast_nonneg, Int.toNat_zero, Int.le_refl, Nat.reduceMul, Nat.zero_mul, Nat.mul_zero, yl, zc, zW, zq, zb, zf, yA, eqD, zo, zK, yp, zH, zk, Nat.le_refl, Array.toList_map, List.size_toArray, List.getElem?_toArray, Nat.sub_zero, List.length_append, Nat.mul_one, zv, yo, bO, bS, z9, ze, zC, List.replicate, zE, zD, y9, allOk, yu, y8, newRow, yM, List.isEmpty, Bool.not_false, Bool.not_true, decide_eq_true_eq, zM, zP, zO, zz, zx, yc, zi, Option.map_some, Option.map_none, Option.isNone, Option.isSome, Option.getD_none, Option.getD_some, yP, zN, zn, Int.reduceToNat, Int.reduceLE, Int.reduceLT, Int.reduceBNe, Int.reduceBEq, tys, cks, hw, e1, e2, cmpI_ge0, cmpI_le0, Int.mul_one]
         rfl
       · simp only [zd, yF, yD, z0, z5, Nat.reduceLT, Nat.reduceEqDiff, decide_true, decide_false, cond_true, cond_false]
         rfl
       · rfl
       first
       | (apply y6
          · simp only [za, z0, Nat.reduceLT, decide_true, cond_true, ins]
            rfl
          · simp only [za, z0, Nat.reduceLT, decide_true, cond_true, ins]
            rfl)
       | (apply yt
          · simp only [za, z0, Nat.reduceLT, decide_true, cond_true, ins]
            rfl))
    | ((first | apply zZ | apply y5)
       · rfl
       · simp only [za, z0, Nat.reduceLT, decide_true, cond_true, ins]
         rfl)
    | (apply zY
       · simp only [z6, get, z5, Nat.reduceEqDiff, decide_true, decide_false, cond_true, cond_false])
    | (apply zA
       · simp only [z6, get, z5, Nat.reduceEqDiff, decide_true, decide_false, cond_true, cond_false])
    | (apply yq
       · kernel_rfl
       · kernel_rfl)
    | (simp only [bW, if_true, Nat.reduceEqDiff, if_false])
  all_goals simp only [xf, finF, yI, yX, zl, get, zG, z5, Nat.reduceEqDiff, decide_true, decide_false, cond_true, cond_false, yV, snapAll, zy, List.getElem?_cons_zero, List.getElem?_cons_succ, bP, Ty.isAgg, if_true, if_false, Bool.false_eq_true, Nat.zero_add, Nat.add_zero, List.length_cons, List.length_nil, Nat.reduceAdd, Nat.reduceLeDiff, List.take, List.drop, Bool.true_and, Bool.and_self, Nat.le_refl, List.map_cons, List.length_map, List.append_nil, List.nil_append, List.cons_append, Nat.sub_zero, bO, bS, tys, Tryd.f78]
  all_goals first | rfl | (simp_all []; done) | (simp_all []; intros; omega)

theorem L29_7 {F : Exit → St → Option D} (p : Paper) (fs : List F4) (nf : Bool) (sf : Nat) (k : List Kt) (x : D) (hnf : nf = true → fs = []) (hsf : nf = false → sf = 4) (hl : fs.length ≤ 9223372036854775807) (hk : ∀ st, get st.tmps 4 = I 1 → yZ cfg (lim cfg) 29 F k .ret st = some (I 1)) : ∀ (rest : List F4) (i : Nat), fs.drop i = rest → i ≤ fs.length →
    (rest.all (f4OK) = true → yZ cfg (lim cfg) 29 F k (.exit 0) ⟨197, [(32, B false), (31, I fs.length), (30, .sl nf (fs.map xi) sf none), (29, I (fs.length : Nat)), (1, .sl nf (fs.map xi) sf none), (2, .lref 0 0 3 0), (6, I (fs.length : Nat))], [(0, ⟨[yW p], 3, false⟩)], 1, 0⟩ = some x) →
    (rest.all (f4OK) = false → x = I 1) →
    EvL cfg (lim cfg) 29 F lp29_7 k ⟨197, [(1, .sl nf (fs.map xi) sf none), (2, .lref 0 0 3 0), (6, I (i : Nat))], [(0, ⟨[yW p], 3, false⟩)], 1, 0⟩ = some x := by
  have hlfi := len_if (f := xi) hnf
  intro rest
  induction rest with
  | nil =>
    intro i hd hi h h'
    have hi' : i = fs.length := by
      have := List.drop_eq_nil_iff.1 hd
      omega
    subst hi'
    refine yw ?_
    try dsimp only [lp29_7, x8, yN, Tryd.f29]
    simp only [bW, if_true, Nat.reduceEqDiff, if_false]
    repeat' first
      | (intro hb; first | cases hb | skip)
      | ((first | apply zB | apply y7)
         · rfl
         · simp (disch := assumption) only [yx, z6, get, z5, z0, Nat.reduceEqDiff, decide_true, decide_false, cond_true, cond_false, yk, zr, zI, yg, zF, Bool.and_true, Bool.true_and, Bool.and_self, Bool.and_false, Bool.false_and, Bool.or_false, Bool.or_true, Bool.false_or, Bool.true_or, Bool.not_true, Bool.not_false, if_true, ye, List.length_cons, List.length_nil, yy, yb, z7, zu, zt, zl, List.getElem?_cons_zero, List.getElem?_cons_succ, Nat.reduceAdd, Nat.zero_add, Nat.add_zero, Nat.one_ne_zero, zT, zs, zp, yC, zG, bP, Ty.isAgg, yB, zX, zR, zm, yh, zh, zV, yj, zg, ofV, zQ, zS, Bool.false_eq_true, if_false, Nat.reduceLeDiff, Nat.reduceLT, List.take, List.drop, List.map_cons, List.map_nil, List.append_nil, List.nil_append, List.cons_append, List.set, unD, yf, snapAll, zy, yi, zJ, zj, yE, z8, zw, ym, zU, Int.toNat_natCast, Int.natCast_nonneg, Int.toNat_zero, Int.le_refl, Nat.reduceMul, Nat.zero_mul, Nat.mul_zero, yl, zc, zW, zq, zb, zf, yA, eqD, zo, zK, yp, zH, zk, Nat.le_refl, Array.toList_map, List.size_toArray, List.getElem?_toArray, Nat.sub_zero, List.length_append, Nat.mul_one, zv, yo, bO, bS, z9, ze, zC, List.replicate, zE, zD, y9, allOk, yu, y8, newRow, yM, List.isEmpty, Bool.not_false, Bool.not_true, decide_eq_true_eq, zM, zP, zO, zz, zx, yc, zi, Option.map_some, Option.map_none, Option.isNone, Option.isSome, Option.getD_none, Option.getD_some, yP, zN, zn, Int.reduceToNat, Int.reduceLE, Int.reduceLT, Int.reduceBNe, Int.reduceBEq, tys, cks, hlfi, Int.lt_irrefl, decide_false]
           rfl
         · simp only [zd, yF, yD, z0, z5, Nat.reduceLT, Nat.reduceEqDiff, decide_true, decide_false, cond_true, cond_false]
           rfl
         · rfl
         first
         | (apply y6
            · simp only [za, z0, Nat.reduceLT, decide_true, cond_true, ins]
              rfl
            · simp only [za, z0, Nat.reduceLT, decide_true, cond_true, ins]
              rfl)
         | (apply yt
            · simp only [za, z0, Nat.reduceLT, decide_true, cond_true, ins]
              rfl))
      | ((first | apply zZ | apply y5)
         · rfl
         · simp only [za, z0, Nat.reduceLT, decide_true, cond_true, ins]
           rfl)
      | (apply zY
         · simp only [z6, get, z5, Nat.reduceEqDiff, decide_true, decide_false, cond_true, cond_false])
      | (apply zA
         · simp only [z6, get, z5, Nat.reduceEqDiff, decide_true, decide_false, cond_true, cond_false])
      | (apply yq
         · kernel_rfl
         · kernel_rfl)
      | (simp only [bW, if_true, Nat.reduceEqDiff, if_false])
    exact h rfl
  | cons f rest ih =>
    intro i hd hi h h'
    have hlt : i < fs.length := by
      rcases Nat.lt_or_ge i fs.length with h | h
      · exact h
      · rw [List.drop_eq_nil_of_le h] at hd; cases hd
    have hm : fs[i]? = some f := by rw [← List.head?_drop, hd]; rfl
    have hmem : f ∈ fs := List.mem_of_getElem? hm
    have hx : (fs.map xi)[i]? = some (.agg [I f.xn, I f.xd, I f.yn, I f.yd]) := by rw [List.getElem?_map, hm]; rfl
    have hlt' : (i : Int) < (fs.length : Int) := by omega
    have hlm : ((fs.map xi).length : Int) = (fs.length : Int) := by simp
    have hw3 : IntKind.i64.wrap ((i : Int) + 1) = ((i + 1 : Nat) : Int) := by rw [wrap_i64 (by omega) (by omega)]; omega
    have hnf' : nf = false := by
      cases h : nf with
      | false => rfl
      | true => rw [hnf h] at hlt; cases hlt
    have hs1 := hsf hnf'
    clear hsf
    subst hs1
    have t76' := fun (n d : Int) => t76 ⟨n, d⟩
    simp only [encR] at t76'
    cases hp : (f4OK) f with
    | true =>
      replace h := fun ha => h (by simp only [List.all_cons, hp, Bool.true_and]; exact ha)
      replace h' := fun ha => h' (by simp only [List.all_cons, hp, Bool.true_and]; exact ha)
      have hih : EvL cfg (lim cfg) 29 F lp29_7 k ⟨197, [(1, .sl nf (fs.map xi) 4 none), (2, .lref 0 0 3 0), (6, I (i + 1 : Nat))], [(0, ⟨[yW p], 3, false⟩)], 1, 0⟩ = some x := ih (i + 1) (by rw [← List.drop_drop, hd]; rfl) hlt h h'
      clear ih h h'
      have hp' := hp
      simp only [f4OK, Bool.and_eq_true] at hp'
      obtain ⟨g1, g2⟩ := hp'
      refine yw ?_
      try dsimp only [lp29_7, x8, yN, Tryd.f29]
      simp only [bW, if_true, Nat.reduceEqDiff, if_false]
      repeat' first
        | (intro hb; first | cases hb | skip)
        | ((first | apply zB | apply y7)
           · rfl
           · simp (disch := assumption) only [yx, z6, get, z5, z0, Nat.reduceEqDiff, decide_true, decide_false, cond_true, cond_false, yk, zr, zI, yg, zF, Bool.and_true, Bool.true_and, Bool.and_self, Bool.and_false, Bool.false_and, Bool.or_false, Bool.or_true, Bool.false_or, Bool.true_or, Bool.not_true, Bool.not_false, if_true, ye, List.length_cons, List.length_nil, yy, yb, z7, zu, zt, zl, List.getElem?_cons_zero, List.getElem?_cons_succ, Nat.reduceAdd, Nat.zero_add, Nat.add_zero, Nat.one_ne_zero, zT, zs, zp, yC, zG, bP, Ty.isAgg, yB, zX, zR, zm, yh, zh, zV, yj, zg, ofV, zQ, zS, Bool.false_eq_true, if_false, Nat.reduceLeDiff, Nat.reduceLT, List.take, List.drop, List.map_cons, List.map_nil, List.append_nil, List.nil_append, List.cons_append, List.set, unD, yf, snapAll, zy, yi, zJ, zj, yE, z8, zw, ym, zU, Int.toNat_natCast, Int.natCast_nonneg, Int.toNat_zero, Int.le_refl, Nat.reduceMul, Nat.zero_mul, Nat.mul_zero, yl, zc, zW, zq, zb, zf, yA, eqD, zo, zK, yp, zH, zk, Nat.le_refl, Array.toList_map, List.size_toArray, List.getElem?_toArray, Nat.sub_zero, List.length_append, Nat.mul_one, zv, yo, bO, bS, z9, ze, zC, List.replicate, zE, zD, y9, allOk, yu, y8, newRow, yM, List.isEmpty, Bool.not_false, Bool.not_true, decide_eq_true_eq, zM, zP, zO, zz, zx, yc, zi, Option.map_some, Option.map_none, Option.isNone, Option.isSome, Option.getD_none, Option.getD_some, yP, zN, zn, Int.reduceToNat, Int.reduceLE, Int.reduceLT, Int.reduceBNe, Int.reduceBEq, tys, cks, hlm, hx, hnf', hlt', hw3, show (0 : Nat) < 2 from by decide, show (1 : Nat) < 2 from by decide, show IntKind.i64.wrap (0 + 1) = 1 from by decide, show IntKind.i64.wrap (1 + 1) = 2 from by decide, Int.toNat_natCast, t76', g1, g2]
             rfl
           · simp only [zd, yF, yD, z0, z5, Nat.reduceLT, Nat.reduceEqDiff, decide_true, decide_false, cond_true, cond_false]
             rfl
           · rfl
           first
           | (apply y6
              · simp only [za, z0, Nat.reduceLT, decide_true, cond_true, ins]
                rfl
              · simp only [za, z0, Nat.reduceLT, decide_true, cond_true, ins]
                rfl)
           | (apply yt
              · simp only [za, z0, Nat.reduceLT, decide_true, cond_true, ins]
                rfl))
        | ((first | apply zZ | apply y5)
           · rfl
           · simp only [za, z0, Nat.reduceLT, decide_true, cond_true, ins]
             rfl)
        | (apply zY
           · simp only [z6, get, z5, Nat.reduceEqDiff, decide_true, decide_false, cond_true, cond_false])
        | (apply zA
           · simp only [z6, get, z5, Nat.reduceEqDiff, decide_true, decide_false, cond_true, cond_false])
        | (apply yq
           · kernel_rfl
           · kernel_rfl)
        | (simp only [bW, if_true, Nat.reduceEqDiff, if_false])
      all_goals first | exact x7 (st1 := ⟨197, [(1, .sl nf (fs.map xi) 4 none), (2, .lref 0 0 3 0), (6, I (i + 1 : Nat))], [(0, ⟨[yW p], 3, false⟩)], 1, 0⟩) lk29_7 (by kernel_rfl) hih | (exfalso; simp_all; done) | (exfalso; simp_all; omega)

    | false =>
      rw [h' (by simp only [List.all_cons, hp, Bool.false_and])]
      clear ih h h'
      simp only [f4OK] at hp
      refine yw ?_
      try dsimp only [lp29_7, x8, yN, Tryd.f29]
      simp only [bW, if_true, Nat.reduceEqDiff, if_false]
      repeat' first
        | (intro hb; first | cases hb | skip)
        | ((first | apply zB | apply y7)
           · rfl
           · simp (disch := assumption) only [yx, z6, get, z5, z0, Nat.reduceEqDiff, decide_true, decide_false, cond_true, cond_false, yk, zr, zI, yg, zF, Bool.and_true, Bool.true_and, Bool.and_self, Bool.and_false, Bool.false_and, Bool.or_false, Bool.or_true, Bool.false_or, Bool.true_or, Bool.not_true, Bool.not_false, if_true, ye, List.length_cons, List.length_nil, yy, yb, z7, zu, zt, zl, List.getElem?_cons_zero, List.getElem?_cons_succ, Nat.reduceAdd, Nat.zero_add, Nat.add_zero, Nat.one_ne_zero, zT, zs, zp, yC, zG, bP, Ty.isAgg, yB, zX, zR, zm, yh, zh, zV, yj, zg, ofV, zQ, zS, Bool.false_eq_true, if_false, Nat.reduceLeDiff, Nat.reduceLT, List.take, List.drop, List.map_cons, List.map_nil, List.append_nil, List.nil_append, List.cons_append, List.set, unD, yf, snapAll, zy, yi, zJ, zj, yE, z8, zw, ym, zU, Int.toNat_natCast, Int.natCast_nonneg, Int.toNat_zero, Int.le_refl, Nat.reduceMul, Nat.zero_mul, Nat.mul_zero, yl, zc, zW, zq, zb, zf, yA, eqD, zo, zK, yp, zH, zk, Nat.le_refl, Array.toList_map, List.size_toArray, List.getElem?_toArray, Nat.sub_zero, List.length_append, Nat.mul_one, zv, yo, bO, bS, z9, ze, zC, List.replicate, zE, zD, y9, allOk, yu, y8, newRow, yM, List.isEmpty, Bool.not_false, Bool.not_true, decide_eq_true_eq, zM, zP, zO, zz, zx, yc, zi, Option.map_some, Option.map_none, Option.isNone, Option.isSome, Option.getD_none, Option.getD_some, yP, zN, zn, Int.reduceToNat, Int.reduceLE, Int.reduceLT, Int.reduceBNe, Int.reduceBEq, tys, cks, hlm, hx, hnf', hlt', hw3, show (0 : Nat) < 2 from by decide, show (1 : Nat) < 2 from by decide, show IntKind.i64.wrap (0 + 1) = 1 from by decide, show IntKind.i64.wrap (1 + 1) = 2 from by decide, Int.toNat_natCast, t76']
             rfl
           · simp only [zd, yF, yD, z0, z5, Nat.reduceLT, Nat.reduceEqDiff, decide_true, decide_false, cond_true, cond_false]
             rfl
           · rfl
           first
           | (apply y6
              · simp only [za, z0, Nat.reduceLT, decide_true, cond_true, ins]
                rfl
              · simp only [za, z0, Nat.reduceLT, decide_true, cond_true, ins]
                rfl)
           | (apply yt
              · simp only [za, z0, Nat.reduceLT, decide_true, cond_true, ins]
                rfl))
        | ((first | apply zZ | apply y5)
           · rfl
           · simp only [za, z0, Nat.reduceLT, decide_true, cond_true, ins]
             rfl)
        | (apply zY
           · simp only [z6, get, z5, Nat.reduceEqDiff, decide_true, decide_false, cond_true, cond_false])
        | (apply zA
           · simp only [z6, get, z5, Nat.reduceEqDiff, decide_true, decide_false, cond_true, cond_false])
        | (apply yq
           · kernel_rfl
           · kernel_rfl)
        | (simp only [bW, if_true, Nat.reduceEqDiff, if_false])
      all_goals first | exact hk _ rfl | (exfalso; simp_all; done) | (exfalso; simp_all; omega)


theorem L29_12 {F : Exit → St → Option D} (p : Paper) (fs : List F4) (nf : Bool) (sf : Nat) (k : List Kt) (x : D) (hnf : nf = true → fs = []) (hsf : nf = false → sf = 4) (hl : fs.length ≤ 9223372036854775807) (hall : fs.all f4OK = true) (hk : ∀ st, get st.tmps 4 = I 31 → yZ cfg (lim cfg) 29 F k .ret st = some (I 31)) : ∀ (rest : List F4) (i : Nat), fs.drop i = rest → i ≤ fs.length →
    (rest.all (half4) = true → yZ cfg (lim cfg) 29 F k (.exit 2) ⟨197, [(54, B false), (53, I fs.length), (52, .sl nf (fs.map xi) sf none), (51, I (fs.length : Nat)), (1, .sl nf (fs.map xi) sf none), (2, .lref 0 0 3 0), (7, I (fs.length : Nat))], [(0, ⟨[yW p], 3, false⟩)], 1, 0⟩ = some x) →
    (rest.all (half4) = false → x = I 31) →
    EvL cfg (lim cfg) 29 F lp29_12 k ⟨197, [(1, .sl nf (fs.map xi) sf none), (2, .lref 0 0 3 0), (7, I (i : Nat))], [(0, ⟨[yW p], 3, false⟩)], 1, 0⟩ = some x := by
  have hlfi := len_if (f := xi) hnf
  intro rest
  induction rest with
  | nil =>
    intro i hd hi h h'
    have hi' : i = fs.length := by
      have := List.drop_eq_nil_iff.1 hd
      omega
    subst hi'
    refine yw ?_
    try dsimp only [lp29_12, x8, yN, Tryd.f29]
    simp only [bW, if_true, Nat.reduceEqDiff, if_false]
    repeat' first
      | (intro hb; first | cases hb | skip)
      | ((first | apply zB | apply y7)
         · rfl
         · simp (disch := assumption) only [yx, z6, get, z5, z0, Nat.reduceEqDiff, decide_true, decide_false, cond_true, cond_false, yk, zr, zI, yg, zF, Bool.and_true, Bool.true_and, Bool.and_self, Bool.and_false, Bool.false_and, Bool.or_false, Bool.or_true, Bool.false_or, Bool.true_or, Bool.not_true, Bool.not_false, if_true, ye, List.length_cons, List.length_nil, yy, yb, z7, zu, zt, zl, List.getElem?_cons_zero, List.getElem?_cons_succ, Nat.reduceAdd, Nat.zero_add, Nat.add_zero, Nat.one_ne_zero, zT, zs, zp, yC, zG, bP, Ty.isAgg, yB, zX, zR, zm, yh, zh, zV, yj, zg, ofV, zQ, zS, Bool.false_eq_true, if_false, Nat.reduceLeDiff, Nat.reduceLT, List.take, List.drop, List.map_cons, List.map_nil, List.append_nil, List.nil_append, List.cons_append, List.set, unD, yf, snapAll, zy, yi, zJ, zj, yE, z8, zw, ym, zU, Int.toNat_natCast, Int.natCast_nonneg, Int.toNat_zero, Int.le_refl, Nat.reduceMul, Nat.zero_mul, Nat.mul_zero, yl, zc, zW, zq, zb, zf, yA, eqD, zo, zK, yp, zH, zk, Nat.le_refl, Array.toList_map, List.size_toArray, List.getElem?_toArray, Nat.sub_zero, List.length_append, Nat.mul_one, zv, yo, bO, bS, z9, ze, zC, List.replicate, zE, zD, y9, allOk, yu, y8, newRow, yM, List.isEmpty, Bool.not_false, Bool.not_true, decide_eq_true_eq, zM, zP, zO, zz, zx, yc, zi, Option.map_some, Option.map_none, Option.isNone, Option.isSome, Option.getD_none, Option.getD_some, yP, zN, zn, Int.reduceToNat, Int.reduceLE, Int.reduceLT, Int.reduceBNe, Int.reduceBEq, tys, cks, hlfi, Int.lt_irrefl, decide_false]
           rfl
         · simp only [zd, yF, yD, z0, z5, Nat.reduceLT, Nat.reduceEqDiff, decide_true, decide_false, cond_true, cond_false]
           rfl
         · rfl
         first
         | (apply y6
            · simp only [za, z0, Nat.reduceLT, decide_true, cond_true, ins]
              rfl
            · simp only [za, z0, Nat.reduceLT, decide_true, cond_true, ins]
              rfl)
         | (apply yt
            · simp only [za, z0, Nat.reduceLT, decide_true, cond_true, ins]
              rfl))
      | ((first | apply zZ | apply y5)
         · rfl
         · simp only [za, z0, Nat.reduceLT, decide_true, cond_true, ins]
           rfl)
      | (apply zY
         · simp only [z6, get, z5, Nat.reduceEqDiff, decide_true, decide_false, cond_true, cond_false])
      | (apply zA
         · simp only [z6, get, z5, Nat.reduceEqDiff, decide_true, decide_false, cond_true, cond_false])
      | (apply yq
         · kernel_rfl
         · kernel_rfl)
      | (simp only [bW, if_true, Nat.reduceEqDiff, if_false])
    exact h rfl
  | cons f rest ih =>
    intro i hd hi h h'
    have hlt : i < fs.length := by
      rcases Nat.lt_or_ge i fs.length with h | h
      · exact h
      · rw [List.drop_eq_nil_of_le h] at hd; cases hd
    have hm : fs[i]? = some f := by rw [← List.head?_drop, hd]; rfl
    have hmem : f ∈ fs := List.mem_of_getElem? hm
    have hx : (fs.map xi)[i]? = some (.agg [I f.xn, I f.xd, I f.yn, I f.yd]) := by rw [List.getElem?_map, hm]; rfl
    have hlt' : (i : Int) < (fs.length : Int) := by omega
    have hlm : ((fs.map xi).length : Int) = (fs.length : Int) := by simp
    have hw3 : IntKind.i64.wrap ((i : Int) + 1) = ((i + 1 : Nat) : Int) := by rw [wrap_i64 (by omega) (by omega)]; omega
    have hnf' : nf = false := by
      cases h : nf with
      | false => rfl
      | true => rw [hnf h] at hlt; cases hlt
    have hs1 := hsf hnf'
    clear hsf
    subst hs1
    have hfo := List.all_eq_true.1 hall f hmem
    simp only [f4OK, ratioOK, Bool.and_eq_true, decide_eq_true_eq] at hfo
    have e1 := t23i f.xn f.xd 1 2 (by omega) (by omega) (by omega) (by omega) (by omega) (by omega) (by omega) (by omega)
    have e2 := t23i f.xn f.xd 2 1 (by omega) (by omega) (by omega) (by omega) (by omega) (by omega) (by omega) (by omega)
    have e3 := t23i f.yn f.yd 1 2 (by omega) (by omega) (by omega) (by omega) (by omega) (by omega) (by omega) (by omega)
    have e4 := t23i f.yn f.yd 2 1 (by omega) (by omega) (by omega) (by omega) (by omega) (by omega) (by omega) (by omega)
    cases hp : (half4) f with
    | true =>
      replace h := fun ha => h (by simp only [List.all_cons, hp, Bool.true_and]; exact ha)
      replace h' := fun ha => h' (by simp only [List.all_cons, hp, Bool.true_and]; exact ha)
      have hih : EvL cfg (lim cfg) 29 F lp29_12 k ⟨197, [(1, .sl nf (fs.map xi) 4 none), (2, .lref 0 0 3 0), (7, I (i + 1 : Nat))], [(0, ⟨[yW p], 3, false⟩)], 1, 0⟩ = some x := ih (i + 1) (by rw [← List.drop_drop, hd]; rfl) hlt h h'
      clear ih h h'
      simp only [half4, okHalf, Bool.and_eq_true, decide_eq_true_eq] at hp
      have u1 : (f.xn * 2 < 1 * f.xd) = False := by simp; omega
      have u2 : (2 * f.xd < f.xn * 1) = False := by simp; omega
      have u3 : (f.yn * 2 < 1 * f.yd) = False := by simp; omega
      have u4 : (2 * f.yd < f.yn * 1) = False := by simp; omega
      refine yw ?_
      try dsimp only [lp29_12, x8, yN, Tryd.f29]
      simp only [bW, if_true, Nat.reduceEqDiff, if_false]
      repeat' first
        | (intro hb; first | cases hb | skip)
        | ((first | apply zB | apply y7)
           · rfl
           · simp (disch := assumption) only [yx, z6, get, z5, z0, Nat.reduceEqDiff, decide_true, decide_false, cond_true, cond_false, yk, zr, zI, yg, zF, Bool.and_true, Bool.true_and, Bool.and_self, Bool.and_false, Bool.false_and, Bool.or_false, Bool.or_true, Bool.false_or, Bool.true_or, Bool.not_true, Bool.not_false, if_true, ye, List.length_cons, List.length_nil, yy, yb, z7, zu, zt, zl, List.getElem?_cons_zero, List.getElem?_cons_succ, Nat.reduceAdd, Nat.zero_add, Nat.add_zero, Nat.one_ne_zero, zT, zs, zp, yC, zG, bP, Ty.isAgg, yB, zX, zR, zm, yh, zh, zV, yj, zg, ofV, zQ, zS, Bool.false_eq_true, if_false, Nat.reduceLeDiff, Nat.reduceLT, List.take, List.drop, List.map_cons, List.map_nil, List.append_nil, List.nil_append, List.cons_append, List.set, unD, yf, snapAll, zy, yi, zJ, zj, yE, z8, zw, ym, zU, Int.toNat_natCast, Int.natCast_nonneg, Int.toNat_zero, Int.le_refl, Nat.reduceMul, Nat.zero_mul, Nat.mul_zero, yl, zc, zW, zq, zb, zf, yA, eqD, zo, zK, yp, zH, zk, Nat.le_refl, Array.toList_map, List.size_toArray, List.getElem?_toArray, Nat.sub_zero, List.length_append, Nat.mul_one, zv, yo, bO, bS, z9, ze, zC, List.replicate, zE, zD, y9, allOk, yu, y8, newRow, yM, List.isEmpty, Bool.not_false, Bool.not_true, decide_eq_true_eq, zM, zP, zO, zz, zx, yc, zi, Option.map_some, Option.map_none, Option.isNone, Option.isSome, Option.getD_none, Option.getD_some, yP, zN, zn, Int.reduceToNat, Int.reduceLE, Int.reduceLT, Int.reduceBNe, Int.reduceBEq, tys, cks, hlm, hx, hnf', hlt', hw3, show (0 : Nat) < 2 from by decide, show (1 : Nat) < 2 from by decide, show IntKind.i64.wrap (0 + 1) = 1 from by decide, show IntKind.i64.wrap (1 + 1) = 2 from by decide, Int.toNat_natCast]
             rfl
           · simp only [zd, yF, yD, z0, z5, Nat.reduceLT, Nat.reduceEqDiff, decide_true, decide_false, cond_true, cond_false]
             rfl
           · rfl
           first
           | (apply y6
              · simp only [za, z0, Nat.reduceLT, decide_true, cond_true, ins]
                rfl
              · simp only [za, z0, Nat.reduceLT, decide_true, cond_true, ins]
                rfl)
           | (apply yt
              · simp only [za, z0, Nat.reduceLT, decide_true, cond_true, ins]
                rfl))
        | ((first | apply zZ | apply y5)
           · rfl
           · simp only [za, z0, Nat.reduceLT, decide_true, cond_true, ins]
             rfl)
        | (apply zY
           · simp only [z6, get, z5, Nat.reduceEqDiff, decide_true, decide_false, cond_true, cond_false])
        | (apply zA
           · simp only [z6, get, z5, Nat.reduceEqDiff, decide_true, decide_false, cond_true, cond_false])
        | (apply yq
           · kernel_rfl
           · kernel_rfl)
        | (simp only [bW, if_true, Nat.reduceEqDiff, if_false])
      refine w_loop (st1 := ⟨197, [(1, .sl nf (fs.map xi) 4 none), (2, .lref 0 0 3 0), (7, I (i : Nat)), (8, I (0 : Nat))], [(0, ⟨[yW p], 3, false⟩)], 1, 0⟩) lk29_15 (by kernel_rfl) ?_
      refine yw ?_
      try dsimp only [lp29_15, x8, yN, Tryd.f29]
      simp only [bW, if_true, Nat.reduceEqDiff, if_false]
      repeat' first
        | (intro hb; first | cases hb | skip)
        | ((first | apply zB | apply y7)
           · rfl
           · simp (disch := assumption) only [yx, z6, get, z5, z0, Nat.reduceEqDiff, decide_true, decide_false, cond_true, cond_false, yk, zr, zI, yg, zF, Bool.and_true, Bool.true_and, Bool.and_self, Bool.and_false, Bool.false_and, Bool.or_false, Bool.or_true, Bool.false_or, Bool.true_or, Bool.not_true, Bool.not_false, if_true, ye, List.length_cons, List.length_nil, yy, yb, z7, zu, zt, zl, List.getElem?_cons_zero, List.getElem?_cons_succ, Nat.reduceAdd, Nat.zero_add, Nat.add_zero, Nat.one_ne_zero, zT, zs, zp, yC, zG, bP, Ty.isAgg, yB, zX, zR, zm, yh, zh, zV, yj, zg, ofV, zQ, zS, Bool.false_eq_true, if_false, Nat.reduceLeDiff, Nat.reduceLT, List.take, List.drop, List.map_cons, List.map_nil, List.append_nil, List.nil_append, List.cons_append, List.set, unD, yf, snapAll, zy, yi, zJ, zj, yE, z8, zw, ym, zU, Int.toNat_natCast, Int.natCast_nonneg, Int.toNat_zero, Int.le_refl, Nat.reduceMul, Nat.zero_mul, Nat.mul_zero, yl, zc, zW, zq, zb, zf, yA, eqD, zo, zK, yp, zH, zk, Nat.le_refl, Array.toList_map, List.size_toArray, List.getElem?_toArray, Nat.sub_zero, List.length_append, Nat.mul_one, zv, yo, bO, bS, z9, ze, zC, List.replicate, zE, zD, y9, allOk, yu, y8, newRow, yM, List.isEmpty, Bool.not_false, Bool.not_true, decide_eq_true_eq, zM, zP, zO, zz, zx, yc, zi, Option.map_some, Option.map_none, Option.isNone, Option.isSome, Option.getD_none, Option.getD_some, yP, zN, zn, Int.reduceToNat, Int.reduceLE, Int.reduceLT, Int.reduceBNe, Int.reduceBEq, tys, cks, hlm, hx, hnf', hlt', hw3, show (0 : Nat) < 2 from by decide, show (1 : Nat) < 2 from by decide, show IntKind.i64.wrap (0 + 1) = 1 from by decide, show IntKind.i64.wrap (1 + 1) = 2 from by decide, Int.toNat_natCast, e1, e2, e3, e4, cmpI_lt0, cmpI_gt0, u1, u2]
             rfl
           · simp only [zd, yF, yD, z0, z5, Nat.reduceLT, Nat.reduceEqDiff, decide_true, decide_false, cond_true, cond_false]
             rfl
           · rfl
           first
           | (apply y6
              · simp only [za, z0, Nat.reduceLT, decide_true, cond_true, ins]
                rfl
              · simp only [za, z0, Nat.reduceLT, decide_true, cond_true, ins]
                rfl)
           | (apply yt
              · simp only [za, z0, Nat.reduceLT, decide_true, cond_true, ins]
                rfl))
        | ((first | apply zZ | apply y5)
           · rfl
           · simp only [za, z0, Nat.reduceLT, decide_true, cond_true, ins]
             rfl)
        | (apply zY
           · simp only [z6, get, z5, Nat.reduceEqDiff, decide_true, decide_false, cond_true, cond_false])
        | (apply zA
           · simp only [z6, get, z5, Nat.reduceEqDiff, decide_true, decide_false, cond_true, cond_false])
        | (apply yq
           · kernel_rfl
           · kernel_rfl)
        | (simp only [bW, if_true, Nat.reduceEqDiff, if_false])
      refine x7 (st1 := ⟨197, [(1, .sl nf (fs.map xi) 4 none), (2, .lref 0 0 3 0), (7, I (i : Nat)), (8, I (1 : Nat))], [(0, ⟨[yW p], 3, false⟩)], 1, 0⟩) lk29_15 (by kernel_rfl) ?_
      refine yw ?_
      try dsimp only [lp29_15, x8, yN, Tryd.f29]
      simp only [bW, if_true, Nat.reduceEqDiff, if_false]
      repeat' first
        | (intro hb; first | cases hb | skip)
        | ((first | apply zB | apply y7)
           · rfl
           · simp (disch := assumption) only [yx, z6, get, z5, z0, Nat.reduceEqDiff, decide_true, decide_false, cond_true, cond_false, yk, zr, zI, yg, zF, Bool.and_true, Bool.true_and, Bool.and_self, Bool.and_false, Bool.false_and, Bool.or_false, Bool.or_true, Bool.false_or, Bool.true_or, Bool.not_true, Bool.not_false, if_true, ye, List.length_cons, List.length_nil, yy, yb, z7, zu, zt, zl, List.getElem?_cons_zero, List.getElem?_cons_succ, Nat.reduceAdd, Nat.zero_add, Nat.add_zero, Nat.one_ne_zero, zT, zs, zp, yC, zG, bP, Ty.isAgg, yB, zX, zR, zm, yh, zh, zV, yj, zg, ofV, zQ, zS, Bool.false_eq_true, if_false, Nat.reduceLeDiff, Nat.reduceLT, List.take, List.drop, List.map_cons, List.map_nil, List.append_nil, List.nil_append, List.cons_append, List.set, unD, yf, snapAll, zy, yi, zJ, zj, yE, z8, zw, ym, zU, Int.toNat_natCast, Int.natCast_nonneg, Int.toNat_zero, Int.le_refl, Nat.reduceMul, Nat.zero_mul, Nat.mul_zero, yl, zc, zW, zq, zb, zf, yA, eqD, zo, zK, yp, zH, zk, Nat.le_refl, Array.toList_map, List.size_toArray, List.getElem?_toArray, Nat.sub_zero, List.length_append, Nat.mul_one, zv, yo, bO, bS, z9, ze, zC, List.replicate, zE, zD, y9, allOk, yu, y8, newRow, yM, List.isEmpty, Bool.not_false, Bool.not_true, decide_eq_true_eq, zM, zP, zO, zz, zx, yc, zi, Option.map_some, Option.map_none, Option.isNone, Option.isSome, Option.getD_none, Option.getD_some, yP, zN, zn, Int.reduceToNat, Int.reduceLE, Int.reduceLT, Int.reduceBNe, Int.reduceBEq, tys, cks, hlm, hx, hnf', hlt', hw3, show (0 : Nat) < 2 from by decide, show (1 : Nat) < 2 from by decide, show IntKind.i64.wrap (0 + 1) = 1 from by decide, show IntKind.i64.wrap (1 + 1) = 2 from by decide, Int.toNat_natCast, e1, e2, e3, e4, cmpI_lt0, cmpI_gt0, u3, u4]
             rfl
           · simp only [zd, yF, yD, z0, z5, Nat.reduceLT, Nat.reduceEqDiff, decide_true, decide_false, cond_true, cond_false]
             rfl
           · rfl
           first
           | (apply y6
              · simp only [za, z0, Nat.reduceLT, decide_true, cond_true, ins]
                rfl
              · simp only [za, z0, Nat.reduceLT, decide_true, cond_true, ins]
                rfl)
           | (apply yt
              · simp only [za, z0, Nat.reduceLT, decide_true, cond_true, ins]
                rfl))
        | ((first | apply zZ | apply y5)
           · rfl
           · simp only [za, z0, Nat.reduceLT, decide_true, cond_true, ins]
             rfl)
        | (apply zY
           · simp only [z6, get, z5, Nat.reduceEqDiff, decide_true, decide_false, cond_true, cond_false])
        | (apply zA
           · simp only [z6, get, z5, Nat.reduceEqDiff, decide_true, decide_false, cond_true, cond_false])
        | (apply yq
           · kernel_rfl
           · kernel_rfl)
        | (simp only [bW, if_true, Nat.reduceEqDiff, if_false])
      refine x7 (st1 := ⟨197, [(1, .sl nf (fs.map xi) 4 none), (2, .lref 0 0 3 0), (7, I (i : Nat)), (8, I (2 : Nat))], [(0, ⟨[yW p], 3, false⟩)], 1, 0⟩) lk29_15 (by kernel_rfl) ?_
      refine yw ?_
      try dsimp only [lp29_15, x8, yN, Tryd.f29]
      simp only [bW, if_true, Nat.reduceEqDiff, if_false]
      repeat' first
        | (intro hb; first | cases hb | skip)
        | ((first | apply zB | apply y7)
           · rfl
           · simp (disch := assumption) only [yx, z6, get, z5, z0, Nat.reduceEqDiff, decide_true, decide_false, cond_true, cond_false, yk, zr, zI, yg, zF, Bool.and_true, Bool.true_and, Bool.and_self, Bool.and_false, Bool.false_and, Bool.or_false, Bool.or_true, Bool.false_or, Bool.true_or, Bool.not_true, Bool.not_false, if_true, ye, List.length_cons, List.length_nil, yy, yb, z7, zu, zt, zl, List.getElem?_cons_zero, List.getElem?_cons_succ, Nat.reduceAdd, Nat.zero_add, Nat.add_zero, Nat.one_ne_zero, zT, zs, zp, yC, zG, bP, Ty.isAgg, yB, zX, zR, zm, yh, zh, zV, yj, zg, ofV, zQ, zS, Bool.false_eq_true, if_false, Nat.reduceLeDiff, Nat.reduceLT, List.take, List.drop, List.map_cons, List.map_nil, List.append_nil, List.nil_append, List.cons_append, List.set, unD, yf, snapAll, zy, yi, zJ, zj, yE, z8, zw, ym, zU, Int.toNat_natCast, Int.natCast_nonneg, Int.toNat_zero, Int.le_refl, Nat.reduceMul, Nat.zero_mul, Nat.mul_zero, yl, zc, zW, zq, zb, zf, yA, eqD, zo, zK, yp, zH, zk, Nat.le_refl, Array.toList_map, List.size_toArray, List.getElem?_toArray, Nat.sub_zero, List.length_append, Nat.mul_one, zv, yo, bO, bS, z9, ze, zC, List.replicate, zE, zD, y9, allOk, yu, y8, newRow, yM, List.isEmpty, Bool.not_false, Bool.not_true, decide_eq_true_eq, zM, zP, zO, zz, zx, yc, zi, Option.map_some, Option.map_none, Option.isNone, Option.isSome, Option.getD_none, Option.getD_some, yP, zN, zn, Int.reduceToNat, Int.reduceLE, Int.reduceLT, Int.reduceBNe, Int.reduceBEq, tys, cks, hlm, hx, hnf', hlt', hw3, show (0 : Nat) < 2 from by decide, show (1 : Nat) < 2 from by decide, show IntKind.i64.wrap (0 + 1) = 1 from by decide, show IntKind.i64.wrap (1 + 1) = 2 from by decide, Int.toNat_natCast, e1, e2, e3, e4, cmpI_lt0, cmpI_gt0]
             rfl
           · simp only [zd, yF, yD, z0, z5, Nat.reduceLT, Nat.reduceEqDiff, decide_true, decide_false, cond_true, cond_false]
             rfl
           · rfl
           first
           | (apply y6
              · simp only [za, z0, Nat.reduceLT, decide_true, cond_true, ins]
                rfl
              · simp only [za, z0, Nat.reduceLT, decide_true, cond_true, ins]
                rfl)
           | (apply yt
              · simp only [za, z0, Nat.reduceLT, decide_true, cond_true, ins]
                rfl))
        | ((first | apply zZ | apply y5)
           · rfl
           · simp only [za, z0, Nat.reduceLT, decide_true, cond_true, ins]
             rfl)
        | (apply zY
           · simp only [z6, get, z5, Nat.reduceEqDiff, decide_true, decide_false, cond_true, cond_false])
        | (apply zA
           · simp only [z6, get, z5, Nat.reduceEqDiff, decide_true, decide_false, cond_true, cond_false])
        | (apply yq
           · kernel_rfl
           · kernel_rfl)
        | (simp only [bW, if_true, Nat.reduceEqDiff, if_false])
      all_goals first | exact x7 (st1 := ⟨197, [(1, .sl nf (fs.map xi) 4 none), (2, .lref 0 0 3 0), (7, I (i + 1 : Nat))], [(0, ⟨[yW p], 3, false⟩)], 1, 0⟩) lk29_12 (by kernel_rfl) hih | (exfalso; simp_all; done) | (exfalso; simp_all; omega)

    | false =>
      rw [h' (by simp only [List.all_cons, hp, Bool.false_and])]
      clear ih h h'
      by_cases v1 : f.xn * 2 < 1 * f.xd
      · have u1 : (f.xn * 2 < 1 * f.xd) = True := by simp only [v1]
        refine yw ?_
        try dsimp only [lp29_12, x8, yN, Tryd.f29]
        simp only [bW, if_true, Nat.reduceEqDiff, if_false]
        repeat' first
          | (intro hb; first | cases hb | skip)
          | ((first | apply zB | apply y7)
             · rfl
             · simp (disch := assumption) only [yx, z6, get, z5, z0, Nat.reduceEqDiff, decide_true, decide_false, cond_true, cond_false, yk, zr, zI, yg, zF, Bool.and_true, Bool.true_and, Bool.and_self, Bool.and_false, Bool.false_and, Bool.or_false, Bool.or_true, Bool.false_or, Bool.true_or, Bool.not_true, Bool.not_false, if_true, ye, List.length_cons, List.length_nil, yy, yb, z7, zu, zt, zl, List.getElem?_cons_zero, List.getElem?_cons_succ, Nat.reduceAdd, Nat.zero_add, Nat.add_zero, Nat.one_ne_zero, zT, zs, zp, yC, zG, bP, Ty.isAgg, yB, zX, zR, zm, yh, zh, zV, yj, zg, ofV, zQ, zS, Bool.false_eq_true, if_false, Nat.reduceLeDiff, Nat.reduceLT, List.take, List.drop, List.map_cons, List.map_nil, List.append_nil, List.nil_append, List.cons_append, List.set, unD, yf, snapAll, zy, yi, zJ, zj, yE, z8, zw, ym, zU, Int.toNat_natCast, Int.natCast_nonneg, Int.toNat_zero, Int.le_refl, Nat.reduceMul, Nat.zero_mul, Nat.mul_zero, yl, zc, zW, zq, zb, zf, yA, eqD, zo, zK, yp, zH, zk, Nat.le_refl, Array.toList_map, List.size_toArray, List.getElem?_toArray, Nat.sub_zero, List.length_append, Nat.mul_one, zv, yo, bO, bS, z9, ze, zC, List.replicate, zE, zD, y9, allOk, yu, y8, newRow, yM, List.isEmpty, Bool.not_false, Bool.not_true, decide_eq_true_eq, zM, zP, zO, zz, zx, yc, zi, Option.map_some, Option.map_none, Option.isNone, Option.isSome, Option.getD_none, Option.getD_some, yP, zN, zn, Int.reduceToNat, Int.reduceLE, Int.reduceLT, Int.reduceBNe, Int.reduceBEq, tys, cks, hlm, hx, hnf', hlt', hw3, show (0 : Nat) < 2 from by decide, show (1 : Nat) < 2 from by decide, show IntKind.i64.wrap (0 + 1) = 1 from by decide, show IntKind.i64.wrap (1 + 1) = 2 from by decide, Int.toNat_natCast]
               rfl
             · simp only [zd, yF, yD, z0, z5, Nat.reduceLT, Nat.reduceEqDiff, decide_true, decide_false, cond_true, cond_false]
               rfl
             · rfl
             first
             | (apply y6
                · simp only [za, z0, Nat.reduceLT, decide_true, cond_true, ins]
                  rfl
                · simp only [za, z0, Nat.reduceLT, decide_true, cond_true, ins]
                  rfl)
             | (apply yt
                · simp only [za, z0, Nat.reduceLT, decide_true, cond_true, ins]
                  rfl))
          | ((first | apply zZ | apply y5)
             · rfl
             · simp only [za, z0, Nat.reduceLT, decide_true, cond_true, ins]
               rfl)
          | (apply zY
             · simp only [z6, get, z5, Nat.reduceEqDiff, decide_true, decide_false, cond_true, cond_false])
          | (apply zA
             · simp only [z6, get, z5, Nat.reduceEqDiff, decide_true, decide_false, cond_true, cond_false])
          | (apply yq
             · kernel_rfl
             · kernel_rfl)
          | (simp only [bW, if_true, Nat.reduceEqDiff, if_false])
        refine w_loop (st1 := ⟨197, [(1, .sl nf (fs.map xi) 4 none), (2, .lref 0 0 3 0), (7, I (i : Nat)), (8, I (0 : Nat))], [(0, ⟨[yW p], 3, false⟩)], 1, 0⟩) lk29_15 (by kernel_rfl) ?_
        refine yw ?_
        try dsimp only [lp29_15, x8, yN, Tryd.f29]
        simp only [bW, if_true, Nat.reduceEqDiff, if_false]
        repeat' first
          | (intro hb; first | cases hb | skip)
          | ((first | apply zB | apply y7)
             · rfl
             · simp (disch := assumption) only [yx, z6, get, z5, z0, Nat.reduceEqDiff, decide_true, decide_false, cond_true, cond_false, yk, zr, zI, yg, zF, Bool.and_true, Bool.true_and, Bool.and_self, Bool.and_false, Bool.false_and, Bool.or_false, Bool.or_true, Bool.false_or, Bool.true_or, Bool.not_true, Bool.not_false, if_true, ye, List.length_cons, List.length_nil, yy, yb, z7, zu, zt, zl, List.getElem?_cons_zero, List.getElem?_cons_succ, Nat.reduceAdd, Nat.zero_add, Nat.add_zero, Nat.one_ne_zero, zT, zs, zp, yC, zG, bP, Ty.isAgg, yB, zX, zR, zm, yh, zh, zV, yj, zg, ofV, zQ, zS, Bool.false_eq_true, if_false, Nat.reduceLeDiff, Nat.reduceLT, List.take, List.drop, List.map_cons, List.map_nil, List.append_nil, List.nil_append, List.cons_append, List.set, unD, yf, snapAll, zy, yi, zJ, zj, yE, z8, zw, ym, zU, Int.toNat_natCast, Int.natCast_nonneg, Int.toNat_zero, Int.le_refl, Nat.reduceMul, Nat.zero_mul, Nat.mul_zero, yl, zc, zW, zq, zb, zf, yA, eqD, zo, zK, yp, zH, zk, Nat.le_refl, Array.toList_map, List.size_toArray, List.getElem?_toArray, Nat.sub_zero, List.length_append, Nat.mul_one, zv, yo, bO, bS, z9, ze, zC, List.replicate, zE, zD, y9, allOk, yu, y8, newRow, yM, List.isEmpty, Bool.not_false, Bool.not_true, decide_eq_true_eq, zM, zP, zO, zz, zx, yc, zi, Option.map_some, Option.map_none, Option.isNone, Option.isSome, Option.getD_none, Option.getD_some, yP, zN, zn, Int.reduceToNat, Int.reduceLE, Int.reduceLT, Int.reduceBNe, Int.reduceBEq, tys, cks, hlm, hx, hnf', hlt', hw3, show (0 : Nat) < 2 from by decide, show (1 : Nat) < 2 from by decide, show IntKind.i64.wrap (0 + 1) = 1 from by decide, show IntKind.i64.wrap (1 + 1) = 2 from by decide, Int.toNat_natCast, e1, e2, e3, e4, cmpI_lt0, cmpI_gt0, u1]
               rfl
             · simp only [zd, yF, yD, z0, z5, Nat.reduceLT, Nat.reduceEqDiff, decide_true, decide_false, cond_true, cond_false]
               rfl
             · rfl
             first
             | (apply y6
                · simp only [za, z0, Nat.reduceLT, decide_true, cond_true, ins]
                  rfl
                · simp only [za, z0, Nat.reduceLT, decide_true, cond_true, ins]
                  rfl)
             | (apply yt
                · simp only [za, z0, Nat.reduceLT, decide_true, cond_true, ins]
                  rfl))
          | ((first | apply zZ | apply y5)
             · rfl
             · simp only [za, z0, Nat.reduceLT, decide_true, cond_true, ins]
               rfl)
          | (apply zY
             · simp only [z6, get, z5, Nat.reduceEqDiff, decide_true, decide_false, cond_true, cond_false])
          | (apply zA
             · simp only [z6, get, z5, Nat.reduceEqDiff, decide_true, decide_false, cond_true, cond_false])
          | (apply yq
             · kernel_rfl
             · kernel_rfl)
          | (simp only [bW, if_true, Nat.reduceEqDiff, if_false])
        all_goals first | exact hk _ rfl | (exfalso; simp_all; done) | (exfalso; simp_all; omega)

      · have u1 : (f.xn * 2 < 1 * f.xd) = False := by simp only [v1]
        by_cases v2 : 2 * f.xd < f.xn * 1
        · have u2 : (2 * f.xd < f.xn * 1) = True := by simp only [v2]
          refine yw ?_
          try dsimp only [lp29_12, x8, yN, Tryd.f29]
          simp only [bW, if_true, Nat.reduceEqDiff, if_false]
          repeat' first
            | (intro hb; first | cases hb | skip)
            | ((first | apply zB | apply y7)
               · rfl
               · simp (disch := assumption) only [yx, z6, get, z5, z0, Nat.reduceEqDiff, decide_true, decide_false, cond_true, cond_false, yk, zr, zI, yg, zF, Bool.and_true, Bool.true_and, Bool.and_self, Bool.and_false, Bool.false_and, Bool.or_false, Bool.or_true, Bool.false_or, Bool.true_or, Bool.not_true, Bool.not_false, if_true, ye, List.length_cons, List.length_nil, yy, yb, z7, zu, zt, zl, List.getElem?_cons_zero, List.getElem?_cons_succ, Nat.reduceAdd, Nat.zero_add, Nat.add_zero, Nat.one_ne_zero, zT, zs, zp, yC, zG, bP, Ty.isAgg, yB, zX, zR, zm, yh, zh, zV, yj, zg, ofV, zQ, zS, Bool.false_eq_true, if_false, Nat.reduceLeDiff, Nat.reduceLT, List.take, List.drop, List.map_cons, List.map_nil, List.append_nil, List.nil_append, List.cons_append, List.set, unD, yf, snapAll, zy, yi, zJ, zj, yE, z8, zw, ym, zU, Int.toNat_natCast, Int.natCast_nonneg, Int.toNat_zero, Int.le_refl, Nat.reduceMul, Nat.zero_mul, Nat.mul_zero, yl, zc, zW, zq, zb, zf, yA, eqD, zo, zK, yp, zH, zk, Nat.le_refl, Array.toList_map, List.size_toArray, List.getElem?_toArray, Nat.sub_zero, List.length_append, Nat.mul_one, zv, yo, bO, bS, z9, ze, zC, List.replicate, zE, zD, y9, allOk, yu, y8, newRow, yM, List.isEmpty, Bool.not_false, Bool.not_true, decide_eq_true_eq, zM, zP, zO, zz, zx, yc, zi, Option.map_some, Option.map_none, Option.isNone, Option.isSome, Option.getD_none, Option.getD_some, yP, zN, zn, Int.reduceToNat, Int.reduceLE, Int.reduceLT, Int.reduceBNe, Int.reduceBEq, tys, cks, hlm, hx, hnf', hlt', hw3, show (0 : Nat) < 2 from by decide, show (1 : Nat) < 2 from by decide, show IntKind.i64.wrap (0 + 1) = 1 from by decide, show IntKind.i64.wrap (1 + 1) = 2 from by decide, Int.toNat_natCast]
                 rfl
               · simp only [zd, yF, yD, z0, z5, Nat.reduceLT, Nat.reduceEqDiff, decide_true, decide_false, cond_true, cond_false]
                 rfl
               · rfl
               first
               | (apply y6
                  · simp only [za, z0, Nat.reduceLT, decide_true, cond_true, ins]
                    rfl
                  · simp only [za, z0, Nat.reduceLT, decide_true, cond_true, ins]
                    rfl)
               | (apply yt
                  · simp only [za, z0, Nat.reduceLT, decide_true, cond_true, ins]
                    rfl))
            | ((first | apply zZ | apply y5)
               · rfl
               · simp only [za, z0, Nat.reduceLT, decide_true, cond_true, ins]
                 rfl)
            | (apply zY
               · simp only [z6, get, z5, Nat.reduceEqDiff, decide_true, decide_false, cond_true, cond_false])
            | (apply zA
               · simp only [z6, get, z5, Nat.reduceEqDiff, decide_true, decide_false, cond_true, cond_false])
            | (apply yq
               · kernel_rfl
               · kernel_rfl)
            | (simp only [bW, if_true, Nat.reduceEqDiff, if_false])
          refine w_loop (st1 := ⟨197, [(1, .sl nf (fs.map xi) 4 none), (2, .lref 0 0 3 0), (7, I (i : Nat)), (8, I (0 : Nat))], [(0, ⟨[yW p], 3, false⟩)], 1, 0⟩) lk29_15 (by kernel_rfl) ?_
          refine yw ?_
          try dsimp only [lp29_15, x8, yN, Tryd.f29]
          simp only [bW, if_true, Nat.reduceEqDiff, if_false]
          repeat' first
            | (intro hb; first | cases hb | skip)
            | ((first | apply zB | apply y7)
               · rfl
               · simp (disch := assumption) only [yx, z6, get, z5, z0, Nat.reduceEqDiff, decide_true, decide_false, cond_true, cond_false, yk, zr, zI, yg, zF, Bool.and_true, Bool.true_and, Bool.and_self, Bool.and_false, Bool.false_and, Bool.or_false, Bool.or_true, Bool.false_or, Bool.true_or, Bool.not_true, Bool.not_false, if_true, ye, List.length_cons, List.length_nil, yy, yb, z7, zu, zt, zl, List.getElem?_cons_zero, List.getElem?_cons_succ, Nat.reduceAdd, Nat.zero_add, Nat.add_zero, Nat.one_ne_zero, zT, zs, zp, yC, zG, bP, Ty.isAgg, yB, zX, zR, zm, yh, zh, zV, yj, zg, ofV, zQ, zS, Bool.false_eq_true, if_false, Nat.reduceLeDiff, Nat.reduceLT, List.take, List.drop, List.map_cons, List.map_nil, List.append_nil, List.nil_append, List.cons_append, List.set, unD, yf, snapAll, zy, yi, zJ, zj, yE, z8, zw, ym, zU, Int.toNat_natCast, Int.natCast_nonneg, Int.toNat_zero, Int.le_refl, Nat.reduceMul, Nat.zero_mul, Nat.mul_zero, yl, zc, zW, zq, zb, zf, yA, eqD, zo, zK, yp, zH, zk, Nat.le_refl, Array.toList_map, List.size_toArray, List.getElem?_toArray, Nat.sub_zero, List.length_append, Nat.mul_one, zv, yo, bO, bS, z9, ze, zC, List.replicate, zE, zD, y9, allOk, yu, y8, newRow, yM, List.isEmpty, Bool.not_false, Bool.not_true, decide_eq_true_eq, zM, zP, zO, zz, zx, yc, zi, Option.map_some, Option.map_none, Option.isNone, Option.isSome, Option.getD_none, Option.getD_some, yP, zN, zn, Int.reduceToNat, Int.reduceLE, Int.reduceLT, Int.reduceBNe, Int.reduceBEq, tys, cks, hlm, hx, hnf', hlt', hw3, show (0 : Nat) < 2 from by decide, show (1 : Nat) < 2 from by decide, show IntKind.i64.wrap (0 + 1) = 1 from by decide, show IntKind.i64.wrap (1 + 1) = 2 from by decide, Int.toNat_natCast, e1, e2, e3, e4, cmpI_lt0, cmpI_gt0, u1, u2]
                 rfl
               · simp only [zd, yF, yD, z0, z5, Nat.reduceLT, Nat.reduceEqDiff, decide_true, decide_false, cond_true, cond_false]
                 rfl
               · rfl
               first
               | (apply y6
                  · simp only [za, z0, Nat.reduceLT, decide_true, cond_true, ins]
                    rfl
                  · simp only [za, z0, Nat.reduceLT, decide_true, cond_true, ins]
                    rfl)
               | (apply yt
                  · simp only [za, z0, Nat.reduceLT, decide_true, cond_true, ins]
                    rfl))
            | ((first | apply zZ | apply y5)
               · rfl
               · simp only [za, z0, Nat.reduceLT, decide_true, cond_true, ins]
                 rfl)
            | (apply zY
               · simp only [z6, get, z5, Nat.reduceEqDiff, decide_true, decide_false, cond_true, cond_false])
            | (apply zA
               · simp only [z6, get, z5, Nat.reduceEqDiff, decide_true, decide_false, cond_true, cond_false])
            | (apply yq
               · kernel_rfl
               · kernel_rfl)
            | (simp only [bW, if_true, Nat.reduceEqDiff, if_false])
          all_goals first | exact hk _ rfl | (exfalso; simp_all; done) | (exfalso; simp_all; omega)

        · have u2 : (2 * f.xd < f.xn * 1) = False := by simp only [v2]
          by_cases v3 : f.yn * 2 < 1 * f.yd
          · have u3 : (f.yn * 2 < 1 * f.yd) = True := by simp only [v3]
            refine yw ?_
            try dsimp only [lp29_12, x8, yN, Tryd.f29]
            simp only [bW, if_true, Nat.reduceEqDiff, if_false]
            repeat' first
              | (intro hb; first | cases hb | skip)
              | ((first | apply zB | apply y7)
                 · rfl
                 · simp (disch := assumption) only [yx, z6, get, z5, z0, Nat.reduceEqDiff, decide_true, decide_false, cond_true, cond_false, yk, zr, zI, yg, zF, Bool.and_true, Bool.true_and, Bool.and_self, Bool.and_false, Bool.false_and, Bool.or_false, Bool.or_true, Bool.false_or, Bool.true_or, Bool.not_true, Bool.not_false, if_true, ye, List.length_cons, List.length_nil, yy, yb, z7, zu, zt, zl, List.getElem?_cons_zero, List.getElem?_cons_succ, Nat.reduceAdd, Nat.zero_add, Nat.add_zero, Nat.one_ne_zero, zT, zs, zp, yC, zG, bP, Ty.isAgg, yB, zX, zR, zm, yh, zh, zV, yj, zg, ofV, zQ, zS, Bool.false_eq_true, if_false, Nat.reduceLeDiff, Nat.reduceLT, List.take, List.drop, List.map_cons, List.map_nil, List.append_nil, List.nil_append, List.cons_append, List.set, unD, yf, snapAll, zy, yi, zJ, zj, yE, z8, zw, ym, zU, Int.toNat_natCast, Int.natCast_nonneg, Int.toNat_zero, Int.le_refl, Nat.reduceMul, Nat.zero_mul, Nat.mul_zero, yl, zc, zW, zq, zb, zf, yA, eqD, zo, zK, yp, zH, zk, Nat.le_refl, Array.toList_map, List.size_toArray, List.getElem?_toArray, Nat.sub_zero, List.length_append, Nat.mul_one, zv, yo, bO, bS, z9, ze, zC, List.replicate, zE, zD, y9, allOk, yu, y8, newRow, yM, List.isEmpty, Bool.not_false, Bool.not_true, decide_eq_true_eq, zM, zP, zO, zz, zx, yc, zi, Option.map_some, Option.map_none, Option.isNone, Option.isSome, Option.getD_none, Option.getD_some, yP, zN, zn, Int.reduceToNat, Int.reduceLE, Int.reduceLT, Int.reduceBNe, Int.reduceBEq, tys, cks, hlm, hx, hnf', hlt', hw3, show (0 : Nat) < 2 from by decide, show (1 : Nat) < 2 from by decide, show IntKind.i64.wrap (0 + 1) = 1 from by decide, show IntKind.i64.wrap (1 + 1) = 2 from by decide, Int.toNat_natCast]
                   rfl
                 · simp only [zd, yF, yD, z0, z5, Nat.reduceLT, Nat.reduceEqDiff, decide_true, decide_false, cond_true, cond_false]
                   rfl
                 · rfl
                 first
                 | (apply y6
                    · simp only [za, z0, Nat.reduceLT, decide_true, cond_true, ins]
                      rfl
                    · simp only [za, z0, Nat.reduceLT, decide_true, cond_true, ins]
                      rfl)
                 | (apply yt
                    · simp only [za, z0, Nat.reduceLT, decide_true, cond_true, ins]
                      rfl))
              | ((first | apply zZ | apply y5)
                 · rfl
                 · simp only [za, z0, Nat.reduceLT, decide_true, cond_true, ins]
                   rfl)
              | (apply zY
                 · simp only [z6, get, z5, Nat.reduceEqDiff, decide_true, decide_false, cond_true, cond_false])
              | (apply zA
                 · simp only [z6, get, z5, Nat.reduceEqDiff, decide_true, decide_false, cond_true, cond_false])
              | (apply yq
                 · kernel_rfl
                 · kernel_rfl)
              | (simp only [bW, if_true, Nat.reduceEqDiff, if_false])
            refine w_loop (st1 := ⟨197, [(1, .sl nf (fs.map xi) 4 none), (2, .lref 0 0 3 0), (7, I (i : Nat)), (8, I (0 : Nat))], [(0, ⟨[yW p], 3, false⟩)], 1, 0⟩) lk29_15 (by kernel_rfl) ?_
            refine yw ?_
            try dsimp only [lp29_15, x8, yN, Tryd.f29]
            simp only [bW, if_true, Nat.reduceEqDiff, if_false]
            repeat' first
              | (intro hb; first | cases hb | skip)
              | ((first | apply zB | apply y7)
                 · rfl
                 · simp (disch := assumption) only [yx, z6, get, z5, z0, Nat.reduceEqDiff, decide_true, decide_false, cond_true, cond_false, yk, zr, zI, yg, zF, Bool.and_true, Bool.true_and, Bool.and_self, Bool.and_false, Bool.false_and, Bool.or_false, Bool.or_true, Bool.false_or, Bool.true_or, Bool.not_true, Bool.not_false, if_true, ye, List.length_cons, List.length_nil, yy, yb, z7, zu, zt, zl, List.getElem?_cons_zero, List.getElem?_cons_succ, Nat.reduceAdd, Nat.zero_add, Nat.add_zero, Nat.one_ne_zero, zT, zs, zp, yC, zG, bP, Ty.isAgg, yB, zX, zR, zm, yh, zh, zV, yj, zg, ofV, zQ, zS, Bool.false_eq_true, if_false, Nat.reduceLeDiff, Nat.reduceLT, List.take, List.drop, List.map_cons, List.map_nil, List.append_nil, List.nil_append, List.cons_append, List.set, unD, yf, snapAll, zy, yi, zJ, zj, yE, z8, zw, ym, zU, Int.toNat_natCast, Int.natCast_nonneg, Int.toNat_zero, Int.le_refl, Nat.reduceMul, Nat.zero_mul, Nat.mul_zero, yl, zc, zW, zq, zb, zf, yA, eqD, zo, zK, yp, zH, zk, Nat.le_refl, Array.toList_map, List.size_toArray, List.getElem?_toArray, Nat.sub_zero, List.length_append, Nat.mul_one, zv, yo, bO, bS, z9, ze, zC, List.replicate, zE, zD, y9, allOk, yu, y8, newRow, yM, List.isEmpty, Bool.not_false, Bool.not_true, decide_eq_true_eq, zM, zP, zO, zz, zx, yc, zi, Option.map_some, Option.map_none, Option.isNone, Option.isSome, Option.getD_none, Option.getD_some, yP, zN, zn, Int.reduceToNat, Int.reduceLE, Int.reduceLT, Int.reduceBNe, Int.reduceBEq, tys, cks, hlm, hx, hnf', hlt', hw3, show (0 : Nat) < 2 from by decide, show (1 : Nat) < 2 from by decide, show IntKind.i64.wrap (0 + 1) = 1 from by decide, show IntKind.i64.wrap (1 + 1) = 2 from by decide, Int.toNat_natCast, e1, e2, e3, e4, cmpI_lt0, cmpI_gt0, u1, u2]
                   rfl
                 · simp only [zd, yF, yD, z0, z5, Nat.reduceLT, Nat.reduceEqDiff, decide_true, decide_false, cond_true, cond_false]
                   rfl
                 · rfl
                 first
                 | (apply y6
                    · simp only [za, z0, Nat.reduceLT, decide_true, cond_true, ins]
                      rfl
                    · simp only [za, z0, Nat.reduceLT, decide_true, cond_true, ins]
                      rfl)
                 | (apply yt
                    · simp only [za, z0, Nat.reduceLT, decide_true, cond_true, ins]
                      rfl))
              | ((first | apply zZ | apply y5)
                 · rfl
                 · simp only [za, z0, Nat.reduceLT, decide_true, cond_true, ins]
                   rfl)
              | (apply zY
                 · simp only [z6, get, z5, Nat.reduceEqDiff, decide_true, decide_false, cond_true, cond_false])
              | (apply zA
                 · simp only [z6, get, z5, Nat.reduceEqDiff, decide_true, decide_false, cond_true, cond_false])
              | (apply yq
                 · kernel_rfl
                 · kernel_rfl)
              | (simp only [bW, if_true, Nat.reduceEqDiff, if_false])
            refine x7 (st1 := ⟨197, [(1, .sl nf (fs.map xi) 4 none), (2, .lref 0 0 3 0), (7, I (i : Nat)), (8, I (1 : Nat))], [(0, ⟨[yW p], 3, false⟩)], 1, 0⟩) lk29_15 (by kernel_rfl) ?_
            refine yw ?_
            try dsimp only [lp29_15, x8, yN, Tryd.f29]
            simp only [bW, if_true, Nat.reduceEqDiff, if_false]
            repeat' first
              | (intro hb; first | cases hb | skip)
              | ((first | apply zB | apply y7)
                 · rfl
                 · simp (disch := assumption) only [yx, z6, get, z5, z0, Nat.reduceEqDiff, decide_true, decide_false, cond_true, cond_false, yk, zr, zI, yg, zF, Bool.and_true, Bool.true_and, Bool.and_self, Bool.and_false, Bool.false_and, Bool.or_false, Bool.or_true, Bool.false_or, Bool.true_or, Bool.not_true, Bool.not_false, if_true, ye, List.length_cons, List.length_nil, yy, yb, z7, zu, zt, zl, List.getElem?_cons_zero, List.getElem?_cons_succ, Nat.reduceAdd, Nat.zero_add, Nat.add_zero, Nat.one_ne_zero, zT, zs, zp, yC, zG, bP, Ty.isAgg, yB, zX, zR, zm, yh, zh, zV, yj, zg, ofV, zQ, zS, Bool.false_eq_true, if_false, Nat.reduceLeDiff, Nat.reduceLT, List.take, List.drop, List.map_cons, List.map_nil, List.append_nil, List.nil_append, List.cons_append, List.set, unD, yf, snapAll, zy, yi, zJ, zj, yE, z8, zw, ym, zU, Int.toNat_natCast, Int.natCast_nonneg, Int.toNat_zero, Int.le_refl, Nat.reduceMul, Nat.zero_mul, Nat.mul_zero, yl, zc, zW, zq, zb, zf, yA, eqD, zo, zK, yp, zH, zk, Nat.le_refl, Array.toList_map, List.size_toArray, List.getElem?_toArray, Nat.sub_zero, List.length_append, Nat.mul_one, zv, yo, bO, bS, z9, ze, zC, List.replicate, zE, zD, y9, allOk, yu, y8, newRow, yM, List.isEmpty, Bool.not_false, Bool.not_true, decide_eq_true_eq, zM, zP, zO, zz, zx, yc, zi, Option.map_some, Option.map_none, Option.isNone, Option.isSome, Option.getD_none, Option.getD_some, yP, zN, zn, Int.reduceToNat, Int.reduceLE, Int.reduceLT, Int.reduceBNe, Int.reduceBEq, tys, cks, hlm, hx, hnf', hlt', hw3, show (0 : Nat) < 2 from by decide, show (1 : Nat) < 2 from by decide, show IntKind.i64.wrap (0 + 1) = 1 from by decide, show IntKind.i64.wrap (1 + 1) = 2 from by decide, Int.toNat_natCast, e1, e2, e3, e4, cmpI_lt0, cmpI_gt0, u3]
                   rfl
                 · simp only [zd, yF, yD, z0, z5, Nat.reduceLT, Nat.reduceEqDiff, decide_true, decide_false, cond_true, cond_false]
                   rfl
                 · rfl
                 first
                 | (apply y6
                    · simp only [za, z0, Nat.reduceLT, decide_true, cond_true, ins]
                      rfl
                    · simp only [za, z0, Nat.reduceLT, decide_true, cond_true, ins]
                      rfl)
                 | (apply yt
                    · simp only [za, z0, Nat.reduceLT, decide_true, cond_true, ins]
                      rfl))
              | ((first | apply zZ | apply y5)
                 · rfl
                 · simp only [za, z0, Nat.reduceLT, decide_true, cond_true, ins]
                   rfl)
              | (apply zY
                 · simp only [z6, get, z5, Nat.reduceEqDiff, decide_true, decide_false, cond_true, cond_false])
              | (apply zA
                 · simp only [z6, get, z5, Nat.reduceEqDiff, decide_true, decide_false, cond_true, cond_false])
              | (apply yq
                 · kernel_rfl
                 · kernel_rfl)
              | (simp only [bW, if_true, Nat.reduceEqDiff, if_false])
            all_goals first | exact hk _ rfl | (exfalso; simp_all; done) | (exfalso; simp_all; omega)

          · have u3 : (f.yn * 2 < 1 * f.yd) = False := by simp only [v3]
            have v4 : 2 * f.yd < f.yn * 1 := by simp [half4, okHalf] at hp; omega
            have u4 : (2 * f.yd < f.yn * 1) = True := by simp only [v4]
            refine yw ?_
            try dsimp only [lp29_12, x8, yN, Tryd.f29]
            simp only [bW, if_true, Nat.reduceEqDiff, if_false]
            repeat' first
              | (intro hb; first | cases hb | skip)
              | ((first | apply zB | apply y7)
                 · rfl
                 · simp (disch := assumption) only [yx, z6, get, z5, z0, Nat.reduceEqDiff, decide_true, decide_false, cond_true, cond_false, yk, zr, zI, yg, zF, Bool.and_true, Bool.true_and, Bool.and_self, Bool.and_false, Bool.false_and, Bool.or_false, Bool.or_true, Bool.false_or, Bool.true_or, Bool.not_true, Bool.not_false, if_true, ye, List.length_cons, List.length_nil, yy, yb, z7, zu, zt, zl, List.getElem?_cons_zero, List.getElem?_cons_succ, Nat.reduceAdd, Nat.zero_add, Nat.add_zero, Nat.one_ne_zero, zT, zs, zp, yC, zG, bP, Ty.isAgg, yB, zX, zR, zm, yh, zh, zV, yj, zg, ofV, zQ, zS, Bool.false_eq_true, if_false, Nat.reduceLeDiff, Nat.reduceLT, List.take, List.drop, List.map_cons, List.map_nil, List.append_nil, List.nil_append, List.cons_append, List.set, unD, yf, snapAll, zy, yi, zJ, zj, yE, z8, zw, ym, zU, Int.toNat_natCast, Int.natCast_nonneg, Int.toNat_zero, Int.le_refl, Nat.reduceMul, Nat.zero_mul, Nat.mul_zero, yl, zc, zW, zq, zb, zf, yA, eqD, zo, zK, yp, zH, zk, Nat.le_refl, Array.toList_map, List.size_toArray, List.getElem?_toArray, Nat.sub_zero, List.length_append, Nat.mul_one, zv, yo, bO, bS, z9, ze, zC, List.replicate, zE, zD, y9, allOk, yu, y8, newRow, yM, List.isEmpty, Bool.not_false, Bool.not_true, decide_eq_true_eq, zM, zP, zO, zz, zx, yc, zi, Option.map_some, Option.map_none, Option.isNone, Option.isSome, Option.getD_none, Option.getD_some, yP, zN, zn, Int.reduceToNat, Int.reduceLE, Int.reduceLT, Int.reduceBNe, Int.reduceBEq, tys, cks, hlm, hx, hnf', hlt', hw3, show (0 : Nat) < 2 from by decide, show (1 : Nat) < 2 from by decide, show IntKind.i64.wrap (0 + 1) = 1 from by decide, show IntKind.i64.wrap (1 + 1) = 2 from by decide, Int.toNat_natCast]
                   rfl
                 · simp only [zd, yF, yD, z0, z5, Nat.reduceLT, Nat.reduceEqDiff, decide_true, decide_false, cond_true, cond_false]
                   rfl
                 · rfl
                 first
                 | (apply y6
                    · simp only [za, z0, Nat.reduceLT, decide_true, cond_true, ins]
                      rfl
                    · simp only [za, z0, Nat.reduceLT, decide_true, cond_true, ins]
                      rfl)
                 | (apply yt
                    · simp only [za, z0, Nat.reduceLT, decide_true, cond_true, ins]
                      rfl))
              | ((first | apply zZ | apply y5)
                 · rfl
                 · simp only [za, z0, Nat.reduceLT, decide_true, cond_true, ins]
                   rfl)
              | (apply zY
                 · simp only [z6, get, z5, Nat.reduceEqDiff, decide_true, decide_false, cond_true, cond_false])
              | (apply zA
                 · simp only [z6, get, z5, Nat.reduceEqDiff, decide_true, decide_false, cond_true, cond_false])
              | (apply yq
                 · kernel_rfl
                 · kernel_rfl)
              | (simp only [bW, if_true, Nat.reduceEqDiff, if_false])
            refine w_loop (st1 := ⟨197, [(1, .sl nf (fs.map xi) 4 none), (2, .lref 0 0 3 0), (7, I (i : Nat)), (8, I (0 : Nat))], [(0, ⟨[yW p], 3, false⟩)], 1, 0⟩) lk29_15 (by kernel_rfl) ?_
            refine yw ?_
            try dsimp only [lp29_15, x8, yN, Tryd.f29]
            simp only [bW, if_true, Nat.reduceEqDiff, if_false]
            repeat' first
              | (intro hb; first | cases hb | skip)
              | ((first | apply zB | apply y7)
                 · rfl
                 · simp (disch := assumption) only [yx, z6, get, z5, z0, Nat.reduceEqDiff, decide_true, decide_false, cond_true, cond_false, yk, zr, zI, yg, zF, Bool.and_true, Bool.true_and, Bool.and_self, Bool.and_false, Bool.false_and, Bool.or_false, Bool.or_true, Bool.false_or, Bool.true_or, Bool.not_true, Bool.not_false, if_true, ye, List.length_cons, List.length_nil, yy, yb, z7, zu, zt, zl, List.getElem?_cons_zero, List.getElem?_cons_succ, Nat.reduceAdd, Nat.zero_add, Nat.add_zero, Nat.one_ne_zero, zT, zs, zp, yC, zG, bP, Ty.isAgg, yB, zX, zR, zm, yh, zh, zV, yj, zg, ofV, zQ, zS, Bool.false_eq_true, if_false, Nat.reduceLeDiff, Nat.reduceLT, List.take, List.drop, List.map_cons, List.map_nil, List.append_nil, List.nil_append, List.cons_append, List.set, unD, yf, snapAll, zy, yi, zJ, zj, yE, z8, zw, ym, zU, Int.toNat_natCast, Int.natCast_nonneg, Int.toNat_zero, Int.le_refl, Nat.reduceMul, Nat.zero_mul, Nat.mul_zero, yl, zc, zW, zq, zb, zf, yA, eqD, zo, zK, yp, zH, zk, Nat.le_refl, Array.toList_map, List.size_toArray, List.getElem?_toArray, Nat.sub_zero, List.length_append, Nat.mul_one, zv, yo, bO, bS, z9, ze, zC, List.replicate, zE, zD, y9, allOk, yu, y8, newRow, yM, List.isEmpty, Bool.not_false, Bool.not_true, decide_eq_true_eq, zM, zP, zO, zz, zx, yc, zi, Option.map_some, Option.map_none, Option.isNone, Option.isSome, Option.getD_none, Option.getD_some, yP, zN, zn, Int.reduceToNat, Int.reduceLE, Int.reduceLT, Int.reduceBNe, Int.reduceBEq, tys, cks, hlm, hx, hnf', hlt', hw3, show (0 : Nat) < 2 from by decide, show (1 : Nat) < 2 from by decide, show IntKind.i64.wrap (0 + 1) = 1 from by decide, show IntKind.i64.wrap (1 + 1) = 2 from by decide, Int.toNat_natCast, e1, e2, e3, e4, cmpI_lt0, cmpI_gt0, u1, u2]
                   rfl
                 · simp only [zd, yF, yD, z0, z5, Nat.reduceLT, Nat.reduceEqDiff, decide_true, decide_false, cond_true, cond_false]
                   rfl
                 · rfl
                 first
                 | (apply y6
                    · simp only [za, z0, Nat.reduceLT, decide_true, cond_true, ins]
                      rfl
                    · simp only [za, z0, Nat.reduceLT, decide_true, cond_true, ins]
                      rfl)
                 | (apply yt
                    · simp only [za, z0, Nat.reduceLT, decide_true, cond_true, ins]
                      rfl))
              | ((first | apply zZ | apply y5)
                 · rfl
                 · simp only [za, z0, Nat.reduceLT, decide_true, cond_true, ins]
                   rfl)
              | (apply zY
                 · simp only [z6, get, z5, Nat.reduceEqDiff, decide_true, decide_false, cond_true, cond_false])
              | (apply zA
                 · simp only [z6, get, z5, Nat.reduceEqDiff, decide_true, decide_false, cond_true, cond_false])
              | (apply yq
                 · kernel_rfl
                 · kernel_rfl)
              | (simp only [bW, if_true, Nat.reduceEqDiff, if_false])
            refine x7 (st1 := ⟨197, [(1, .sl nf (fs.map xi) 4 none), (2, .lref 0 0 3 0), (7, I (i : Nat)), (8, I (1 : Nat))], [(0, ⟨[yW p], 3, false⟩)], 1, 0⟩) lk29_15 (by kernel_rfl) ?_
            refine yw ?_
            try dsimp only [lp29_15, x8, yN, Tryd.f29]
            simp only [bW, if_true, Nat.reduceEqDiff, if_false]
            repeat' first
              | (intro hb; first | cases hb | skip)
              | ((first | apply zB | apply y7)
                 · rfl
                 · simp (disch := assumption) only [yx, z6, get, z5, z0, Nat.reduceEqDiff, decide_true, decide_false, cond_true, cond_false, yk, zr, zI, yg, zF, Bool.and_true, Bool.true_and, Bool.and_self, Bool.and_false, Bool.false_and, Bool.or_false, Bool.or_true, Bool.false_or, Bool.true_or, Bool.not_true, Bool.not_false, if_true, ye, List.length_cons, List.length_nil, yy, yb, z7, zu, zt, zl, List.getElem?_cons_zero, List.getElem?_cons_succ, Nat.reduceAdd, Nat.zero_add, Nat.add_zero, Nat.one_ne_zero, zT, zs, zp, yC, zG, bP, Ty.isAgg, yB, zX, zR, zm, yh, zh, zV, yj, zg, ofV, zQ, zS, Bool.false_eq_true, if_false, Nat.reduceLeDiff, Nat.reduceLT, List.take, List.drop, List.map_cons, List.map_nil, List.append_nil, List.nil_append, List.cons_append, List.set, unD, yf, snapAll, zy, yi, zJ, zj, yE, z8, zw, ym, zU, Int.toNat_natCast, Int.natCast_nonneg, Int.toNat_zero, Int.le_refl, Nat.reduceMul, Nat.zero_mul, Nat.mul_zero, yl, zc, zW, zq, zb, zf, yA, eqD, zo, zK, yp, zH, zk, Nat.le_refl, Array.toList_map, List.size_toArray, List.getElem?_toArray, Nat.sub_zero, List.length_append, Nat.mul_one, zv, yo, bO, bS, z9, ze, zC, List.replicate, zE, zD, y9, allOk, yu, y8, newRow, yM, List.isEmpty, Bool.not_false, Bool.not_true, decide_eq_true_eq, zM, zP, zO, zz, zx, yc, zi, Option.map_some, Option.map_none, Option.isNone, Option.isSome, Option.getD_none, Option.getD_some, yP, zN, zn, Int.reduceToNat, Int.reduceLE, Int.reduceLT, Int.reduceBNe, Int.reduceBEq, tys, cks, hlm, hx, hnf', hlt', hw3, show (0 : Nat) < 2 from by decide, show (1 : Nat) < 2 from by decide, show IntKind.i64.wrap (0 + 1) = 1 from by decide, show IntKind.i64.wrap (1 + 1) = 2 from by decide, Int.toNat_natCast, e1, e2, e3, e4, cmpI_lt0, cmpI_gt0, u3, u4]
                   rfl
                 · simp only [zd, yF, yD, z0, z5, Nat.reduceLT, Nat.reduceEqDiff, decide_true, decide_false, cond_true, cond_false]
                   rfl
                 · rfl
                 first
                 | (apply y6
                    · simp only [za, z0, Nat.reduceLT, decide_true, cond_true, ins]
                      rfl
                    · simp only [za, z0, Nat.reduceLT, decide_true, cond_true, ins]
                      rfl)
                 | (apply yt
                    · simp only [za, z0, Nat.reduceLT, decide_true, cond_true, ins]
                      rfl))
              | ((first | apply zZ | apply y5)
                 · rfl
                 · simp only [za, z0, Nat.reduceLT, decide_true, cond_true, ins]
                   rfl)
              | (apply zY
                 · simp only [z6, get, z5, Nat.reduceEqDiff, decide_true, decide_false, cond_true, cond_false])
              | (apply zA
                 · simp only [z6, get, z5, Nat.reduceEqDiff, decide_true, decide_false, cond_true, cond_false])
              | (apply yq
                 · kernel_rfl
                 · kernel_rfl)
              | (simp only [bW, if_true, Nat.reduceEqDiff, if_false])
            all_goals first | exact hk _ rfl | (exfalso; simp_all; done) | (exfalso; simp_all; omega)


theorem L29_20 {F : Exit → St → Option D} (p : Paper) (fs : List F4) (nf : Bool) (sf : Nat) (k : List Kt) (x : D) (hnf : nf = true → fs = []) (hsf : nf = false → sf = 4) (hl : fs.length ≤ 9223372036854775807) (hwf : p.wf) (hok : xc p = true) (hlen : (fs.length : Int) = p.sheets) (hall : fs.all f4OK = true) (hk : ∀ st, get st.tmps 4 = I 31 → yZ cfg (lim cfg) 29 F k .ret st = some (I 31)) : ∀ (rest : List Mark) (i : Nat), p.marks.drop i = rest → i ≤ p.marks.length →
    (rest.all (markFine fs) = true → yZ cfg (lim cfg) 29 F k (.exit 6) ⟨197, [(85, B false), (84, I p.marks.length), (83, .sl p.nm (p.marks.map encM) 5 none), (82, .lref 0 0 3 1), (81, I (p.marks.length : Nat)), (1, .sl nf (fs.map xi) sf none), (2, .lref 0 0 3 0), (9, I (p.marks.length : Nat))], [(0, ⟨[yW p], 3, false⟩)], 1, 0⟩ = some x) →
    (rest.all (markFine fs) = false → x = I 31) →
    EvL cfg (lim cfg) 29 F lp29_20 k ⟨197, [(1, .sl nf (fs.map xi) sf none), (2, .lref 0 0 3 0), (9, I (i : Nat))], [(0, ⟨[yW p], 3, false⟩)], 1, 0⟩ = some x := by
  have hlfi := len_if (f := xi) hnf
  have hlx := len_if (f := encM) hwf.1
  have hwl := hwf.2.2.1
  intro rest
  induction rest with
  | nil =>
    intro i hd hi h h'
    have hi' : i = p.marks.length := by
      have := List.drop_eq_nil_iff.1 hd
      omega
    subst hi'
    refine yw ?_
    try dsimp only [lp29_20, x8, yN, Tryd.f29]
    simp only [bW, if_true, Nat.reduceEqDiff, if_false]
    repeat' first
      | (intro hb; first | cases hb | skip)
      | ((first | apply zB | apply y7)
         · rfl
         · simp (disch := assumption) only [yx, z6, get, z5, z0, Nat.reduceEqDiff, decide_true, decide_false, cond_true, cond_false, yk, zr, zI, yg, zF, Bool.and_true, Bool.true_and, Bool.and_self, Bool.and_false, Bool.false_and, Bool.or_false, Bool.or_true, Bool.false_or, Bool.true_or, Bool.not_true, Bool.not_false, if_true, ye, List.length_cons, List.length_nil, yy, yb, z7, zu, zt, zl, List.getElem?_cons_zero, List.getElem?_cons_succ, Nat.reduceAdd, Nat.zero_add, Nat.add_zero, Nat.one_ne_zero, zT, zs, zp, yC, zG, bP, Ty.isAgg, yB, zX, zR, zm, yh, zh, zV, yj, zg, ofV, zQ, zS, Bool.false_eq_true, if_false, Nat.reduceLeDiff, Nat.reduceLT, List.take, List.drop, List.map_cons, List.map_nil, List.append_nil, List.nil_append, List.cons_append, List.set, unD, yf, snapAll, zy, yi, zJ, zj, yE, z8, zw, ym, zU, Int.toNat_natCast, Int.natCast_nonneg, Int.toNat_zero, Int.le_refl, Nat.reduceMul, Nat.zero_mul, Nat.mul_zero, yl, zc, zW, zq, zb, zf, yA, eqD, zo, zK, yp, zH, zk, Nat.le_refl, Array.toList_map, List.size_toArray, List.getElem?_toArray, Nat.sub_zero, List.length_append, Nat.mul_one, zv, yo, bO, bS, z9, ze, zC, List.replicate, zE, zD, y9, allOk, yu, y8, newRow, yM, List.isEmpty, Bool.not_false, Bool.not_true, decide_eq_true_eq, zM, zP, zO, zz, zx, yc, zi, Option.map_some, Option.map_none, Option.isNone, Option.isSome, Option.getD_none, Option.getD_some, yP, zN, zn, Int.reduceToNat, Int.reduceLE, Int.reduceLT, Int.reduceBNe, Int.reduceBEq, tys, cks, hlfi, hlx, Int.lt_irrefl, decide_false]
           rfl
         · simp only [zd, yF, yD, z0, z5, Nat.reduceLT, Nat.reduceEqDiff, decide_true, decide_false, cond_true, cond_false]
           rfl
         · rfl
         first
         | (apply y6
            · simp only [za, z0, Nat.reduceLT, decide_true, cond_true, ins]
              rfl
            · simp only [za, z0, Nat.reduceLT, decide_true, cond_true, ins]
              rfl)
         | (apply yt
            · simp only [za, z0, Nat.reduceLT, decide_true, cond_true, ins]
              rfl))
      | ((first | apply zZ | apply y5)
         · rfl
         · simp only [za, z0, Nat.reduceLT, decide_true, cond_true, ins]
           rfl)
      | (apply zY
         · simp only [z6, get, z5, Nat.reduceEqDiff, decide_true, decide_false, cond_true, cond_false])
      | (apply zA
         · simp only [z6, get, z5, Nat.reduceEqDiff, decide_true, decide_false, cond_true, cond_false])
      | (apply yq
         · kernel_rfl
         · kernel_rfl)
      | (simp only [bW, if_true, Nat.reduceEqDiff, if_false])
    exact h rfl
  | cons m rest ih =>
    intro i hd hi h h'
    have hlt : i < p.marks.length := by
      rcases Nat.lt_or_ge i p.marks.length with h | h
      · exact h
      · rw [List.drop_eq_nil_of_le h] at hd; cases hd
    have hm : p.marks[i]? = some m := by rw [← List.head?_drop, hd]; rfl
    have hmem : m ∈ p.marks := List.mem_of_getElem? hm
    have hx : (p.marks.map encM)[i]? = some (.agg [I m.sheet, I m.axis, I m.tru, I m.seen, I m.err]) := by rw [List.getElem?_map, hm]; rfl
    have hlt' : (i : Int) < (p.marks.length : Int) := by omega
    have hlm : ((p.marks.map encM).length : Int) = (p.marks.length : Int) := by simp
    have hw3 : IntKind.i64.wrap ((i : Int) + 1) = ((i + 1 : Nat) : Int) := by rw [wrap_i64 (by omega) (by omega)]; omega
    obtain ⟨o1, o2, o3, o4, o5, o6⟩ := paperOK_def hok
    have hmn : p.nm = false := by
      cases h : p.nm with
      | false => rfl
      | true => rw [hwf.1 h] at hlt; cases hlt
    have hlf : fs.length ≤ 4 ∧ 1 ≤ fs.length := by omega
    have hnf' : nf = false := by
      cases h : nf with
      | false => rfl
      | true => rw [hnf h] at hlf; simp at hlf
    have hs1 := hsf hnf'
    clear hsf
    subst hs1
    have hlmf : ((fs.map xi).length : Int) = (fs.length : Int) := by simp
    have hmk := o5 m hmem
    simp only [markOK, yY, isAxis, isSeen, Bool.and_eq_true, Bool.or_eq_true, Bool.not_eq_true', decide_eq_true_eq, decide_eq_false_iff_not] at hmk
    obtain ⟨N, hN⟩ := Int.eq_ofNat_of_zero_le (show 0 ≤ m.sheet by omega)
    have hlN : N < fs.length := by omega
    obtain ⟨f, hf⟩ : ∃ f, fs[N]? = some f := ⟨_, List.getElem?_eq_getElem hlN⟩
    have hxf : (fs.map xi)[N]? = some (.agg [I f.xn, I f.xd, I f.yn, I f.yd]) := by rw [List.getElem?_map, hf]; rfl
    have hfof := List.all_eq_true.1 hall f (List.mem_of_getElem? hf)
    simp only [f4OK, ratioOK, Bool.and_eq_true, decide_eq_true_eq] at hfof
    have hfaf : ∀ ax, yQ fs ax (1 + m.sheet) = axF f ax := by
      intro ax
      unfold yQ
      rw [if_neg (by omega), show (1 + m.sheet - 1).toNat = N by omega, hf]
    have hsN : m.sheet.toNat = N := by omega
    have c1N : (m.sheet < 0) = False := by simp; omega
    have c2N : (m.sheet ≥ (fs.length : Int)) = False := by simp; omega
    have c3N : (0 ≤ m.sheet) = True := by simp; omega
    have w1 : IntKind.i64.wrap (m.seen - m.err) = m.seen - m.err := wrap_i64 (by omega) (by omega)
    have w2 : IntKind.i64.wrap (m.seen + m.err) = m.seen + m.err := wrap_i64 (by omega) (by omega)
    have hax : m.axis = 0 ∨ m.axis = 1 := hmk.1.1.1.2
    have hfax0 : axF f 0 = ⟨f.xn, f.xd⟩ := rfl
    have hfax1 : axF f 1 = ⟨f.yn, f.yd⟩ := rfl
    cases hp : (markFine fs) m with
    | true =>
      replace h := fun ha => h (by simp only [List.all_cons, hp, Bool.true_and]; exact ha)
      replace h' := fun ha => h' (by simp only [List.all_cons, hp, Bool.true_and]; exact ha)
      have hih : EvL cfg (lim cfg) 29 F lp29_20 k ⟨197, [(1, .sl nf (fs.map xi) 4 none), (2, .lref 0 0 3 0), (9, I (i + 1 : Nat))], [(0, ⟨[yW p], 3, false⟩)], 1, 0⟩ = some x := ih (i + 1) (by rw [← List.drop_drop, hd]; rfl) hlt h h'
      clear ih h h'
      unfold markFine at hp
      rcases hax with hax | hax
      · have w0 := hax
        rw [hax, hfaf] at hp
        have h78 := t78 f.xn f.xd m.tru (m.seen - m.err) (m.seen + m.err) (by omega) (by omega) (by omega) (by omega) (by omega) (by omega) (by omega) (by omega) (by omega) (by omega)
        rw [show (decide (f.xn * m.tru ≥ (m.seen - m.err) * f.xd) && decide (f.xn * m.tru ≤ (m.seen + m.err) * f.xd)) = true from hp] at h78
        refine yw ?_
        try dsimp only [lp29_20, x8, yN, Tryd.f29]
        simp only [bW, if_true, Nat.reduceEqDiff, if_false]
        repeat' first
          | (intro hb; first | cases hb | skip)
          | ((first | apply zB | apply y7)
             · rfl
             · simp (disch := assumption) only [yx, z6, get, z5, z0, Nat.reduceEqDiff, decide_true, decide_false, cond_true, cond_false, yk, zr, zI, yg, zF, Bool.and_true, Bool.true_and, Bool.and_self, Bool.and_false, Bool.false_and, Bool.or_false, Bool.or_true, Bool.false_or, Bool.true_or, Bool.not_true, Bool.not_false, if_true, ye, List.length_cons, List.length_nil, yy, yb, z7, zu, zt, zl, List.getElem?_cons_zero, List.getElem?_cons_succ, Nat.reduceAdd, Nat.zero_add, Nat.add_zero, Nat.one_ne_zero, zT, zs, zp, yC, zG, bP, Ty.isAgg, yB, zX, zR, zm, yh, zh, zV, yj, zg, ofV, zQ, zS, Bool.false_eq_true, if_false, Nat.reduceLeDiff, Nat.reduceLT, List.take, List.drop, List.map_cons, List.map_nil, List.append_nil, List.nil_append, List.cons_append, List.set, unD, yf, snapAll, zy, yi, zJ, zj, yE, z8, zw, ym, zU, Int.toNat_natCast, Int.natCast_nonneg, Int.toNat_zero, Int.le_refl, Nat.reduceMul, Nat.zero_mul, Nat.mul_zero, yl, zc, zW, zq, zb, zf, yA, eqD, zo, zK, yp, zH, zk, Nat.le_refl, Array.toList_map, List.size_toArray, List.getElem?_toArray, Nat.sub_zero, List.length_append, Nat.mul_one, zv, yo, bO, bS, z9, ze, zC, List.replicate, zE, zD, y9, allOk, yu, y8, newRow, yM, List.isEmpty, Bool.not_false, Bool.not_true, decide_eq_true_eq, zM, zP, zO, zz, zx, yc, zi, Option.map_some, Option.map_none, Option.isNone, Option.isSome, Option.getD_none, Option.getD_some, yP, zN, zn, Int.reduceToNat, Int.reduceLE, Int.reduceLT, Int.reduceBNe, Int.reduceBEq, tys, cks, hlm, hlmf, hx, hmn, hnf', hlt', hw3, show (0 : Nat) < 2 from by decide, show (1 : Nat) < 2 from by decide, show IntKind.i64.wrap (0 + 1) = 1 from by decide, show IntKind.i64.wrap (1 + 1) = 2 from by decide, Int.toNat_natCast, c1N, c2N, c3N, hsN, hxf, w1, w2, w0, h78, Int.reduceToNat, Int.reduceLT, Int.reduceLE, Int.reduceGE, show (0 : Int).toNat = 0 from rfl, show (1 : Int).toNat = 1 from rfl]
               rfl
             · simp only [zd, yF, yD, z0, z5, Nat.reduceLT, Nat.reduceEqDiff, decide_true, decide_false, cond_true, cond_false]
               rfl
             · rfl
             first
             | (apply y6
                · simp only [za, z0, Nat.reduceLT, decide_true, cond_true, ins]
                  rfl
                · simp only [za, z0, Nat.reduceLT, decide_true, cond_true, ins]
                  rfl)
             | (apply yt
                · simp only [za, z0, Nat.reduceLT, decide_true, cond_true, ins]
                  rfl))
          | ((first | apply zZ | apply y5)
             · rfl
             · simp only [za, z0, Nat.reduceLT, decide_true, cond_true, ins]
               rfl)
          | (apply zY
             · simp only [z6, get, z5, Nat.reduceEqDiff, decide_true, decide_false, cond_true, cond_false])
          | (apply zA
             · simp only [z6, get, z5, Nat.reduceEqDiff, decide_true, decide_false, cond_true, cond_false])
          | (apply yq
             · kernel_rfl
             · kernel_rfl)
          | (simp only [bW, if_true, Nat.reduceEqDiff, if_false])
        all_goals first | exact x7 (st1 := ⟨197, [(1, .sl nf (fs.map xi) 4 none), (2, .lref 0 0 3 0), (9, I (i + 1 : Nat))], [(0, ⟨[yW p], 3, false⟩)], 1, 0⟩) lk29_20 (by kernel_rfl) hih | (exfalso; simp_all; done) | (exfalso; simp_all; omega)
      · have w0 := hax
        rw [hax, hfaf] at hp
        have h78 := t78 f.yn f.yd m.tru (m.seen - m.err) (m.seen + m.err) (by omega) (by omega) (by omega) (by omega) (by omega) (by omega) (by omega) (by omega) (by omega) (by omega)
        rw [show (decide (f.yn * m.tru ≥ (m.seen - m.err) * f.yd) && decide (f.yn * m.tru ≤ (m.seen + m.err) * f.yd)) = true from hp] at h78
        refine yw ?_
        try dsimp only [lp29_20, x8, yN, Tryd.f29]
        simp only [bW, if_true, Nat.reduceEqDiff, if_false]
        repeat' first
          | (intro hb; first | cases hb | skip)
          | ((first | apply zB | apply y7)
             · rfl
             · simp (disch := assumption) only [yx, z6, get, z5, z0, Nat.reduceEqDiff, decide_true, decide_false, cond_true, cond_false, yk, zr, zI, yg, zF, Bool.and_true, Bool.true_and, Bool.and_self, Bool.and_false, Bool.false_and, Bool.or_false, Bool.or_true, Bool.false_or, Bool.true_or, Bool.not_true, Bool.not_false, if_true, ye, List.length_cons, List.length_nil, yy, yb, z7, zu, zt, zl, List.getElem?_cons_zero, List.getElem?_cons_succ, Nat.reduceAdd, Nat.zero_add, Nat.add_zero, Nat.one_ne_zero, zT, zs, zp, yC, zG, bP, Ty.isAgg, yB, zX, zR, zm, yh, zh, zV, yj, zg, ofV, zQ, zS, Bool.false_eq_true, if_false, Nat.reduceLeDiff, Nat.reduceLT, List.take, List.drop, List.map_cons, List.map_nil, List.append_nil, List.nil_append, List.cons_append, List.set, unD, yf, snapAll, zy, yi, zJ, zj, yE, z8, zw, ym, zU, Int.toNat_natCast, Int.natCast_nonneg, Int.toNat_zero, Int.le_refl, Nat.reduceMul, Nat.zero_mul, Nat.mul_zero, yl, zc, zW, zq, zb, zf, yA, eqD, zo, zK, yp, zH, zk, Nat.le_refl, Array.toList_map, List.size_toArray, List.getElem?_toArray, Nat.sub_zero, List.length_append, Nat.mul_one, zv, yo, bO, bS, z9, ze, zC, List.replicate, zE, zD, y9, allOk, yu, y8, newRow, yM, List.isEmpty, Bool.not_false, Bool.not_true, decide_eq_true_eq, zM, zP, zO, zz, zx, yc, zi, Option.map_some, Option.map_none, Option.isNone, Option.isSome, Option.getD_none, Option.getD_some, yP, zN, zn, Int.reduceToNat, Int.reduceLE, Int.reduceLT, Int.reduceBNe, Int.reduceBEq, tys, cks, hlm, hlmf, hx, hmn, hnf', hlt', hw3, show (0 : Nat) < 2 from by decide, show (1 : Nat) < 2 from by decide, show IntKind.i64.wrap (0 + 1) = 1 from by decide, show IntKind.i64.wrap (1 + 1) = 2 from by decide, Int.toNat_natCast, c1N, c2N, c3N, hsN, hxf, w1, w2, w0, h78, Int.reduceToNat, Int.reduceLT, Int.reduceLE, Int.reduceGE, show (0 : Int).toNat = 0 from rfl, show (1 : Int).toNat = 1 from rfl]
               rfl
             · simp only [zd, yF, yD, z0, z5, Nat.reduceLT, Nat.reduceEqDiff, decide_true, decide_false, cond_true, cond_false]
               rfl
             · rfl
             first
             | (apply y6
                · simp only [za, z0, Nat.reduceLT, decide_true, cond_true, ins]
                  rfl
                · simp only [za, z0, Nat.reduceLT, decide_true, cond_true, ins]
                  rfl)
             | (apply yt
                · simp only [za, z0, Nat.reduceLT, decide_true, cond_true, ins]
                  rfl))
          | ((first | apply zZ | apply y5)
             · rfl
             · simp only [za, z0, Nat.reduceLT, decide_true, cond_true, ins]
               rfl)
          | (apply zY
             · simp only [z6, get, z5, Nat.reduceEqDiff, decide_true, decide_false, cond_true, cond_false])
          | (apply zA
             · simp only [z6, get, z5, Nat.reduceEqDiff, decide_true, decide_false, cond_true, cond_false])
          | (apply yq
             · kernel_rfl
             · kernel_rfl)
          | (simp only [bW, if_true, Nat.reduceEqDiff, if_false])
        all_goals first | exact x7 (st1 := ⟨197, [(1, .sl nf (fs.map xi) 4 none), (2, .lref 0 0 3 0), (9, I (i + 1 : Nat))], [(0, ⟨[yW p], 3, false⟩)], 1, 0⟩) lk29_20 (by kernel_rfl) hih | (exfalso; simp_all; done) | (exfalso; simp_all; omega)

    | false =>
      rw [h' (by simp only [List.all_cons, hp, Bool.false_and])]
      clear ih h h'
      unfold markFine at hp
      rcases hax with hax | hax
      · have w0 := hax
        rw [hax, hfaf] at hp
        have h78 := t78 f.xn f.xd m.tru (m.seen - m.err) (m.seen + m.err) (by omega) (by omega) (by omega) (by omega) (by omega) (by omega) (by omega) (by omega) (by omega) (by omega)
        rw [show (decide (f.xn * m.tru ≥ (m.seen - m.err) * f.xd) && decide (f.xn * m.tru ≤ (m.seen + m.err) * f.xd)) = false from hp] at h78
        refine yw ?_
        try dsimp only [lp29_20, x8, yN, Tryd.f29]
        simp only [bW, if_true, Nat.reduceEqDiff, if_false]
        repeat' first
          | (intro hb; first | cases hb | skip)
          | ((first | apply zB | apply y7)
             · rfl
             · simp (disch := assumption) only [yx, z6, get, z5, z0, Nat.reduceEqDiff, decide_true, decide_false, cond_true, cond_false, yk, zr, zI, yg, zF, Bool.and_true, Bool.true_and, Bool.and_self, Bool.and_false, Bool.false_and, Bool.or_false, Bool.or_true, Bool.false_or, Bool.true_or, Bool.not_true, Bool.not_false, if_true, ye, List.length_cons, List.length_nil, yy, yb, z7, zu, zt, zl, List.getElem?_cons_zero, List.getElem?_cons_succ, Nat.reduceAdd, Nat.zero_add, Nat.add_zero, Nat.one_ne_zero, zT, zs, zp, yC, zG, bP, Ty.isAgg, yB, zX, zR, zm, yh, zh, zV, yj, zg, ofV, zQ, zS, Bool.false_eq_true, if_false, Nat.reduceLeDiff, Nat.reduceLT, List.take, List.drop, List.map_cons, List.map_nil, List.append_nil, List.nil_append, List.cons_append, List.set, unD, yf, snapAll, zy, yi, zJ, zj, yE, z8, zw, ym, zU, Int.toNat_natCast, Int.natCast_nonneg, Int.toNat_zero, Int.le_refl, Nat.reduceMul, Nat.zero_mul, Nat.mul_zero, yl, zc, zW, zq, zb, zf, yA, eqD, zo, zK, yp, zH, zk, Nat.le_refl, Array.toList_map, List.size_toArray, List.getElem?_toArray, Nat.sub_zero, List.length_append, Nat.mul_one, zv, yo, bO, bS, z9, ze, zC, List.replicate, zE, zD, y9, allOk, yu, y8, newRow, yM, List.isEmpty, Bool.not_false, Bool.not_true, decide_eq_true_eq, zM, zP, zO, zz, zx, yc, zi, Option.map_some, Option.map_none, Option.isNone, Option.isSome, Option.getD_none, Option.getD_some, yP, zN, zn, Int.reduceToNat, Int.reduceLE, Int.reduceLT, Int.reduceBNe, Int.reduceBEq, tys, cks, hlm, hlmf, hx, hmn, hnf', hlt', hw3, show (0 : Nat) < 2 from by decide, show (1 : Nat) < 2 from by decide, show IntKind.i64.wrap (0 + 1) = 1 from by decide, show IntKind.i64.wrap (1 + 1) = 2 from by decide, Int.toNat_natCast, c1N, c2N, c3N, hsN, hxf, w1, w2, w0, h78, Int.reduceToNat, Int.reduceLT, Int.reduceLE, Int.reduceGE, show (0 : Int).toNat = 0 from rfl, show (1 : Int).toNat = 1 from rfl]
               rfl
             · simp only [zd, yF, yD, z0, z5, Nat.reduceLT, Nat.reduceEqDiff, decide_true, decide_false, cond_true, cond_false]
               rfl
             · rfl
             first
             | (apply y6
                · simp only [za, z0, Nat.reduceLT, decide_true, cond_true, ins]
                  rfl
                · simp only [za, z0, Nat.reduceLT, decide_true, cond_true, ins]
                  rfl)
             | (apply yt
                · simp only [za, z0, Nat.reduceLT, decide_true, cond_true, ins]
                  rfl))
          | ((first | apply zZ | apply y5)
             · rfl
             · simp only [za, z0, Nat.reduceLT, decide_true, cond_true, ins]
               rfl)
          | (apply zY
             · simp only [z6, get, z5, Nat.reduceEqDiff, decide_true, decide_false, cond_true, cond_false])
          | (apply zA
             · simp only [z6, get, z5, Nat.reduceEqDiff, decide_true, decide_false, cond_true, cond_false])
          | (apply yq
             · kernel_rfl
             · kernel_rfl)
          | (simp only [bW, if_true, Nat.reduceEqDiff, if_false])
        all_goals first | exact hk _ rfl | (exfalso; simp_all; done) | (exfalso; simp_all; omega)
      · have w0 := hax
        rw [hax, hfaf] at hp
        have h78 := t78 f.yn f.yd m.tru (m.seen - m.err) (m.seen + m.err) (by omega) (by omega) (by omega) (by omega) (by omega) (by omega) (by omega) (by omega) (by omega) (by omega)
        rw [show (decide (f.yn * m.tru ≥ (m.seen - m.err) * f.yd) && decide (f.yn * m.tru ≤ (m.seen + m.err) * f.yd)) = false from hp] at h78
        refine yw ?_
        try dsimp only [lp29_20, x8, yN, Tryd.f29]
        simp only [bW, if_true, Nat.reduceEqDiff, if_false]
        repeat' first
          | (intro hb; first | cases hb | skip)
          | ((first | apply zB | apply y7)
             · rfl
             · simp (disch := assumption) only [yx, z6, get, z5, z0, Nat.reduceEqDiff, decide_true, decide_false, cond_true, cond_false, yk, zr, zI, yg, zF, Bool.and_true, Bool.true_and, Bool.and_self, Bool.and_false, Bool.false_and, Bool.or_false, Bool.or_true, Bool.false_or, Bool.true_or, Bool.not_true, Bool.not_false, if_true, ye, List.length_cons, List.length_nil, yy, yb, z7, zu, zt, zl, List.getElem?_cons_zero, List.getElem?_cons_succ, Nat.reduceAdd, Nat.zero_add, Nat.add_zero, Nat.one_ne_zero, zT, zs, zp, yC, zG, bP, Ty.isAgg, yB, zX, zR, zm, yh, zh, zV, yj, zg, ofV, zQ, zS, Bool.false_eq_true, if_false, Nat.reduceLeDiff, Nat.reduceLT, List.take, List.drop, List.map_cons, List.map_nil, List.append_nil, List.nil_append, List.cons_append, List.set, unD, yf, snapAll, zy, yi, zJ, zj, yE, z8, zw, ym, zU, Int.toNat_natCast, Int.natCast_nonneg, Int.toNat_zero, Int.le_refl, Nat.reduceMul, Nat.zero_mul, Nat.mul_zero, yl, zc, zW, zq, zb, zf, yA, eqD, zo, zK, yp, zH, zk, Nat.le_refl, Array.toList_map, List.size_toArray, List.getElem?_toArray, Nat.sub_zero, List.length_append, Nat.mul_one, zv, yo, bO, bS, z9, ze, zC, List.replicate, zE, zD, y9, allOk, yu, y8, newRow, yM, List.isEmpty, Bool.not_false, Bool.not_true, decide_eq_true_eq, zM, zP, zO, zz, zx, yc, zi, Option.map_some, Option.map_none, Option.isNone, Option.isSome, Option.getD_none, Option.getD_some, yP, zN, zn, Int.reduceToNat, Int.reduceLE, Int.reduceLT, Int.reduceBNe, Int.reduceBEq, tys, cks, hlm, hlmf, hx, hmn, hnf', hlt', hw3, show (0 : Nat) < 2 from by decide, show (1 : Nat) < 2 from by decide, show IntKind.i64.wrap (0 + 1) = 1 from by decide, show IntKind.i64.wrap (1 + 1) = 2 from by decide, Int.toNat_natCast, c1N, c2N, c3N, hsN, hxf, w1, w2, w0, h78, Int.reduceToNat, Int.reduceLT, Int.reduceLE, Int.reduceGE, show (0 : Int).toNat = 0 from rfl, show (1 : Int).toNat = 1 from rfl]
               rfl
             · simp only [zd, yF, yD, z0, z5, Nat.reduceLT, Nat.reduceEqDiff, decide_true, decide_false, cond_true, cond_false]
               rfl
             · rfl
             first
             | (apply y6
                · simp only [za, z0, Nat.reduceLT, decide_true, cond_true, ins]
                  rfl
                · simp only [za, z0, Nat.reduceLT, decide_true, cond_true, ins]
                  rfl)
             | (apply yt
                · simp only [za, z0, Nat.reduceLT, decide_true, cond_true, ins]
                  rfl))
          | ((first | apply zZ | apply y5)
             · rfl
             · simp only [za, z0, Nat.reduceLT, decide_true, cond_true, ins]
               rfl)
          | (apply zY
             · simp only [z6, get, z5, Nat.reduceEqDiff, decide_true, decide_false, cond_true, cond_false])
          | (apply zA
             · simp only [z6, get, z5, Nat.reduceEqDiff, decide_true, decide_false, cond_true, cond_false])
          | (apply yq
             · kernel_rfl
             · kernel_rfl)
          | (simp only [bW, if_true, Nat.reduceEqDiff, if_false])
        all_goals first | exact hk _ rfl | (exfalso; simp_all; done) | (exfalso; simp_all; omega)


theorem L29_26 {F : Exit → St → Option D} (p : Paper) (fs : List F4) (nf : Bool) (sf : Nat) (k : List Kt) (x : D) (hnf : nf = true → fs = []) (hsf : nf = false → sf = 4) (hl : fs.length ≤ 9223372036854775807) (hwf : p.wf) (hok : xc p = true) (hlen : (fs.length : Int) = p.sheets) (hall : fs.all f4OK = true) (hk : ∀ st, get st.tmps 4 = I 31 → yZ cfg (lim cfg) 29 F k .ret st = some (I 31)) : ∀ (rest : List Join) (i : Nat), p.joins.drop i = rest → i ≤ p.joins.length →
    (rest.all (joinFine fs) = true → yZ cfg (lim cfg) 29 F k (.exit 8) ⟨197, [(119, B false), (118, I p.joins.length), (117, .sl p.nj (p.joins.map encJ) 7 none), (116, .lref 0 0 3 2), (115, I (p.joins.length : Nat)), (1, .sl nf (fs.map xi) sf none), (2, .lref 0 0 3 0), (11, I (p.joins.length : Nat))], [(0, ⟨[yW p], 3, false⟩)], 1, 0⟩ = some x) →
    (rest.all (joinFine fs) = false → x = I 31) →
    EvL cfg (lim cfg) 29 F lp29_26 k ⟨197, [(1, .sl nf (fs.map xi) sf none), (2, .lref 0 0 3 0), (11, I (i : Nat))], [(0, ⟨[yW p], 3, false⟩)], 1, 0⟩ = some x := by
  have hlfi := len_if (f := xi) hnf
  have hlx := len_if (f := encJ) hwf.2.1
  have hwl := hwf.2.2.2
  intro rest
  induction rest with
  | nil =>
    intro i hd hi h h'
    have hi' : i = p.joins.length := by
      have := List.drop_eq_nil_iff.1 hd
      omega
    subst hi'
    refine yw ?_
    try dsimp only [lp29_26, x8, yN, Tryd.f29]
    simp only [bW, if_true, Nat.reduceEqDiff, if_false]
    repeat' first
      | (intro hb; first | cases hb | skip)
      | ((first | apply zB | apply y7)
         · rfl
         · simp (disch := assumption) only [yx, z6, get, z5, z0, Nat.reduceEqDiff, decide_true, decide_false, cond_true, cond_false, yk, zr, zI, yg, zF, Bool.and_true, Bool.true_and, Bool.and_self, Bool.and_false, Bool.false_and, Bool.or_false, Bool.or_true, Bool.false_or, Bool.true_or, Bool.not_true, Bool.not_false, if_true, ye, List.length_cons, List.length_nil, yy, yb, z7, zu, zt, zl, List.getElem?_cons_zero, List.getElem?_cons_succ, Nat.reduceAdd, Nat.zero_add, Nat.add_zero, Nat.one_ne_zero, zT, zs, zp, yC, zG, bP, Ty.isAgg, yB, zX, zR, zm, yh, zh, zV, yj, zg, ofV, zQ, zS, Bool.false_eq_true, if_false, Nat.reduceLeDiff, Nat.reduceLT, List.take, List.drop, List.map_cons, List.map_nil, List.append_nil, List.nil_append, List.cons_append, List.set, unD, yf, snapAll, zy, yi, zJ, zj, yE, z8, zw, ym, zU, Int.toNat_natCast, Int.natCast_nonneg, Int.toNat_zero, Int.le_refl, Nat.reduceMul, Nat.zero_mul, Nat.mul_zero, yl, zc, zW, zq, zb, zf, yA, eqD, zo, zK, yp, zH, zk, Nat.le_refl, Array.toList_map, List.size_toArray, List.getElem?_toArray, Nat.sub_zero, List.length_append, Nat.mul_one, zv, yo, bO, bS, z9, ze, zC, List.replicate, zE, zD, y9, allOk, yu, y8, newRow, yM, List.isEmpty, Bool.not_false, Bool.not_true, decide_eq_true_eq, zM, zP, zO, zz, zx, yc, zi, Option.map_some, Option.map_none, Option.isNone, Option.isSome, Option.getD_none, Option.getD_some, yP, zN, zn, Int.reduceToNat, Int.reduceLE, Int.reduceLT, Int.reduceBNe, Int.reduceBEq, tys, cks, hlfi, hlx, Int.lt_irrefl, decide_false]
           rfl
         · simp only [zd, yF, yD, z0, z5, Nat.reduceLT, Nat.reduceEqDiff, decide_true, decide_false, cond_true, cond_false]
           rfl
         · rfl
         first
         | (apply y6
            · simp only [za, z0, Nat.reduceLT, decide_true, cond_true, ins]
              rfl
            · simp only [za, z0, Nat.reduceLT, decide_true, cond_true, ins]
              rfl)
         | (apply yt
            · simp only [za, z0, Nat.reduceLT, decide_true, cond_true, ins]
              rfl))
      | ((first | apply zZ | apply y5)
         · rfl
         · simp only [za, z0, Nat.reduceLT, decide_true, cond_true, ins]
           rfl)
      | (apply zY
         · simp only [z6, get, z5, Nat.reduceEqDiff, decide_true, decide_false, cond_true, cond_false])
      | (apply zA
         · simp only [z6, get, z5, Nat.reduceEqDiff, decide_true, decide_false, cond_true, cond_false])
      | (apply yq
         · kernel_rfl
         · kernel_rfl)
      | (simp only [bW, if_true, Nat.reduceEqDiff, if_false])
    exact h rfl
  | cons m rest ih =>
    intro i hd hi h h'
    have hlt : i < p.joins.length := by
      rcases Nat.lt_or_ge i p.joins.length with h | h
      · exact h
      · rw [List.drop_eq_nil_of_le h] at hd; cases hd
    have hm : p.joins[i]? = some m := by rw [← List.head?_drop, hd]; rfl
    have hmem : m ∈ p.joins := List.mem_of_getElem? hm
    have hx : (p.joins.map encJ)[i]? = some (.agg [I m.a, I m.b, I m.axis, I m.seenA, I m.errA, I m.seenB, I m.errB]) := by rw [List.getElem?_map, hm]; rfl
    have hlt' : (i : Int) < (p.joins.length : Int) := by omega
    have hlm : ((p.joins.map encJ).length : Int) = (p.joins.length : Int) := by simp
    have hw3 : IntKind.i64.wrap ((i : Int) + 1) = ((i + 1 : Nat) : Int) := by rw [wrap_i64 (by omega) (by omega)]; omega
    obtain ⟨o1, o2, o3, o4, o5, o6⟩ := paperOK_def hok
    have hmn : p.nj = false := by
      cases h : p.nj with
      | false => rfl
      | true => rw [hwf.2.1 h] at hlt; cases hlt
    have hlf : fs.length ≤ 4 ∧ 1 ≤ fs.length := by omega
    have hnf' : nf = false := by
      cases h : nf with
      | false => rfl
      | true => rw [hnf h] at hlf; simp at hlf
    have hs1 := hsf hnf'
    clear hsf
    subst hs1
    have hlmf : ((fs.map xi).length : Int) = (fs.length : Int) := by simp
    have hmk := o6 m hmem
    simp only [joinOK, yY, isAxis, isSeen, Bool.and_eq_true, Bool.or_eq_true, Bool.not_eq_true', decide_eq_true_eq, decide_eq_false_iff_not] at hmk
    obtain ⟨N, hN⟩ := Int.eq_ofNat_of_zero_le (show 0 ≤ m.a by omega)
    have hlN : N < fs.length := by omega
    obtain ⟨f, hf⟩ : ∃ f, fs[N]? = some f := ⟨_, List.getElem?_eq_getElem hlN⟩
    have hxf : (fs.map xi)[N]? = some (.agg [I f.xn, I f.xd, I f.yn, I f.yd]) := by rw [List.getElem?_map, hf]; rfl
    have hfof := List.all_eq_true.1 hall f (List.mem_of_getElem? hf)
    simp only [f4OK, ratioOK, Bool.and_eq_true, decide_eq_true_eq] at hfof
    have hfaf : ∀ ax, yQ fs ax (1 + m.a) = axF f ax := by
      intro ax
      unfold yQ
      rw [if_neg (by omega), show (1 + m.a - 1).toNat = N by omega, hf]
    have hsN : m.a.toNat = N := by omega
    have c1N : (m.a < 0) = False := by simp; omega
    have c2N : (m.a ≥ (fs.length : Int)) = False := by simp; omega
    have c3N : (0 ≤ m.a) = True := by simp; omega
    obtain ⟨M, hM⟩ := Int.eq_ofNat_of_zero_le (show 0 ≤ m.b by omega)
    have hlM : M < fs.length := by omega
    obtain ⟨g, hg⟩ : ∃ f, fs[M]? = some f := ⟨_, List.getElem?_eq_getElem hlM⟩
    have hxg : (fs.map xi)[M]? = some (.agg [I g.xn, I g.xd, I g.yn, I g.yd]) := by rw [List.getElem?_map, hg]; rfl
    have hfog := List.all_eq_true.1 hall g (List.mem_of_getElem? hg)
    simp only [f4OK, ratioOK, Bool.and_eq_true, decide_eq_true_eq] at hfog
    have hfag : ∀ ax, yQ fs ax (1 + m.b) = axF g ax := by
      intro ax
      unfold yQ
      rw [if_neg (by omega), show (1 + m.b - 1).toNat = M by omega, hg]
    have hsM : m.b.toNat = M := by omega
    have c1M : (m.b < 0) = False := by simp; omega
    have c2M : (m.b ≥ (fs.length : Int)) = False := by simp; omega
    have c3M : (0 ≤ m.b) = True := by simp; omega
    have w1 : IntKind.i64.wrap (m.seenA - m.errA) = m.seenA - m.errA := wrap_i64 (by omega) (by omega)
    have w2 : IntKind.i64.wrap (m.seenA + m.errA) = m.seenA + m.errA := wrap_i64 (by omega) (by omega)
    have w3 : IntKind.i64.wrap (m.seenB - m.errB) = m.seenB - m.errB := wrap_i64 (by omega) (by omega)
    have w4 : IntKind.i64.wrap (m.seenB + m.errB) = m.seenB + m.errB := wrap_i64 (by omega) (by omega)
    have hax : m.axis = 0 ∨ m.axis = 1 := hmk.1.1.2
    cases hp : (joinFine fs) m with
    | true =>
      replace h := fun ha => h (by simp only [List.all_cons, hp, Bool.true_and]; exact ha)
      replace h' := fun ha => h' (by simp only [List.all_cons, hp, Bool.true_and]; exact ha)
      have hih : EvL cfg (lim cfg) 29 F lp29_26 k ⟨197, [(1, .sl nf (fs.map xi) 4 none), (2, .lref 0 0 3 0), (11, I (i + 1 : Nat))], [(0, ⟨[yW p], 3, false⟩)], 1, 0⟩ = some x := ih (i + 1) (by rw [← List.drop_drop, hd]; rfl) hlt h h'
      clear ih h h'
      unfold joinFine at hp
      rcases hax with hax | hax
      · have w0 := hax
        rw [hax, hfaf, hfag] at hp
        obtain ⟨b1, b2, b3⟩ := mulB (a := m.seenA - m.errA) (b := f.xd) (by omega) (by omega) (by omega) (by omega)
        obtain ⟨b4, b5, b6⟩ := mulB (a := m.seenA + m.errA) (b := f.xd) (by omega) (by omega) (by omega) (by omega)
        obtain ⟨b7, b8, b9⟩ := mulB (a := m.seenB - m.errB) (b := g.xd) (by omega) (by omega) (by omega) (by omega)
        obtain ⟨b10, b11, b12⟩ := mulB (a := m.seenB + m.errB) (b := g.xd) (by omega) (by omega) (by omega) (by omega)
        have e1 := t23i ((m.seenA - m.errA) * f.xd) f.xn ((m.seenB + m.errB) * g.xd) g.xn b1 b2 (by omega) (by omega) b10 b11 (by omega) (by omega)
        have e2 := t23i ((m.seenB - m.errB) * g.xd) g.xn ((m.seenA + m.errA) * f.xd) f.xn b7 b8 (by omega) (by omega) b4 b5 (by omega) (by omega)
        have q1 : f.xn * g.xd * (m.seenB + m.errB) = (m.seenB + m.errB) * g.xd * f.xn := by rw [Int.mul_comm (f.xn * g.xd), Int.mul_comm f.xn, ← Int.mul_assoc]
        have q2 : f.xd * g.xn * (m.seenA - m.errA) = (m.seenA - m.errA) * f.xd * g.xn := by rw [Int.mul_comm (f.xd * g.xn), ← Int.mul_assoc]
        have q3 : f.xn * g.xd * (m.seenB - m.errB) = (m.seenB - m.errB) * g.xd * f.xn := by rw [Int.mul_comm (f.xn * g.xd), Int.mul_comm f.xn, ← Int.mul_assoc]
        have q4 : f.xd * g.xn * (m.seenA + m.errA) = (m.seenA + m.errA) * f.xd * g.xn := by rw [Int.mul_comm (f.xd * g.xn), ← Int.mul_assoc]
        replace hp : (decide (f.xn * g.xd * (m.seenB + m.errB) ≥ f.xd * g.xn * (m.seenA - m.errA)) && decide (f.xn * g.xd * (m.seenB - m.errB) ≤ f.xd * g.xn * (m.seenA + m.errA))) = true := hp
        rw [q1, q2, q3, q4] at hp
        clear q1 q2 q3 q4
        simp only [Bool.and_eq_true, decide_eq_true_eq] at hp
        have u1 : ((m.seenB + m.errB) * g.xd * f.xn < (m.seenA - m.errA) * f.xd * g.xn) = False := by simp only [eq_iff_iff, iff_false]; omega
        have u2 : ((m.seenA + m.errA) * f.xd * g.xn < (m.seenB - m.errB) * g.xd * f.xn) = False := by simp only [eq_iff_iff, iff_false]; omega
        clear hp
        refine yw ?_
        try dsimp only [lp29_26, x8, yN, Tryd.f29]
        simp only [bW, if_true, Nat.reduceEqDiff, if_false]
        repeat' first
          | (intro hb; first | cases hb | skip)
          | ((first | apply zB | apply y7)
             · rfl
             · simp (disch := assumption) only [yx, z6, get, z5, z0, Nat.reduceEqDiff, decide_true, decide_false, cond_true, cond_false, yk, zr, zI, yg, zF, Bool.and_true, Bool.true_and, Bool.and_self, Bool.and_false, Bool.false_and, Bool.or_false, Bool.or_true, Bool.false_or, Bool.true_or, Bool.not_true, Bool.not_false, if_true, ye, List.length_cons, List.length_nil, yy, yb, z7, zu, zt, zl, List.getElem?_cons_zero, List.getElem?_cons_succ, Nat.reduceAdd, Nat.zero_add, Nat.add_zero, Nat.one_ne_zero, zT, zs, zp, yC, zG, bP, Ty.isAgg, yB, zX, zR, zm, yh, zh, zV, yj, zg, ofV, zQ, zS, Bool.false_eq_true, if_false, Nat.reduceLeDiff, Nat.reduceLT, List.take, List.drop, List.map_cons, List.map_nil, List.append_nil, List.nil_append, List.cons_append, List.set, unD, yf, snapAll, zy, yi, zJ, zj, yE, z8, zw, ym, zU, Int.toNat_natCast, Int.natCast_nonneg, Int.toNat_zero, Int.le_refl, Nat.reduceMul, Nat.zero_mul, Nat.mul_zero, yl, zc, zW, zq, zb, zf, yA, eqD, zo, zK, yp, zH, zk, Nat.le_refl, Array.toList_map, List.size_toArray, List.getElem?_toArray, Nat.sub_zero, List.length_append, Nat.mul_one, zv, yo, bO, bS, z9, ze, zC, List.replicate, zE, zD, y9, allOk, yu, y8, newRow, yM, List.isEmpty, Bool.not_false, Bool.not_true, decide_eq_true_eq, zM, zP, zO, zz, zx, yc, zi, Option.map_some, Option.map_none, Option.isNone, Option.isSome, Option.getD_none, Option.getD_some, yP, zN, zn, Int.reduceToNat, Int.reduceLE, Int.reduceLT, Int.reduceBNe, Int.reduceBEq, tys, cks, hlm, hlmf, hx, hmn, hnf', hlt', hw3, show (0 : Nat) < 2 from by decide, show (1 : Nat) < 2 from by decide, show IntKind.i64.wrap (0 + 1) = 1 from by decide, show IntKind.i64.wrap (1 + 1) = 2 from by decide, Int.toNat_natCast, c1N, c2N, c3N, hsN, hxf, c1M, c2M, c3M, hsM, hxg, w1, w2, w3, w4, w0, b3, b6, b9, b12, e1, e2, cmpI_gt0, Int.reduceToNat, Int.reduceLT, Int.reduceLE, Int.reduceGE, show (0 : Int).toNat = 0 from rfl, show (1 : Int).toNat = 1 from rfl, u1, u2]
               rfl
             · simp only [zd, yF, yD, z0, z5, Nat.reduceLT, Nat.reduceEqDiff, decide_true, decide_false, cond_true, cond_false]
               rfl
             · rfl
             first
             | (apply y6
                · simp only [za, z0, Nat.reduceLT, decide_true, cond_true, ins]
                  rfl
                · simp only [za, z0, Nat.reduceLT, decide_true, cond_true, ins]
                  rfl)
             | (apply yt
                · simp only [za, z0, Nat.reduceLT, decide_true, cond_true, ins]
                  rfl))
          | ((first | apply zZ | apply y5)
             · rfl
             · simp only [za, z0, Nat.reduceLT, decide_true, cond_true, ins]
               rfl)
          | (apply zY
             · simp only [z6, get, z5, Nat.reduceEqDiff, decide_true, decide_false, cond_true, cond_false])
          | (apply zA
             · simp only [z6, get, z5, Nat.reduceEqDiff, decide_true, decide_false, cond_true, cond_false])
          | (apply yq
             · kernel_rfl
             · kernel_rfl)
          | (simp only [bW, if_true, Nat.reduceEqDiff, if_false])
        all_goals exact x7 (st1 := ⟨197, [(1, .sl nf (fs.map xi) 4 none), (2, .lref 0 0 3 0), (11, I (i + 1 : Nat))], [(0, ⟨[yW p], 3, false⟩)], 1, 0⟩) lk29_26 (by kernel_rfl) hih
      · have w0 := hax
        rw [hax, hfaf, hfag] at hp
        obtain ⟨b1, b2, b3⟩ := mulB (a := m.seenA - m.errA) (b := f.yd) (by omega) (by omega) (by omega) (by omega)
        obtain ⟨b4, b5, b6⟩ := mulB (a := m.seenA + m.errA) (b := f.yd) (by omega) (by omega) (by omega) (by omega)
        obtain ⟨b7, b8, b9⟩ := mulB (a := m.seenB - m.errB) (b := g.yd) (by omega) (by omega) (by omega) (by omega)
        obtain ⟨b10, b11, b12⟩ := mulB (a := m.seenB + m.errB) (b := g.yd) (by omega) (by omega) (by omega) (by omega)
        have e1 := t23i ((m.seenA - m.errA) * f.yd) f.yn ((m.seenB + m.errB) * g.yd) g.yn b1 b2 (by omega) (by omega) b10 b11 (by omega) (by omega)
        have e2 := t23i ((m.seenB - m.errB) * g.yd) g.yn ((m.seenA + m.errA) * f.yd) f.yn b7 b8 (by omega) (by omega) b4 b5 (by omega) (by omega)
        have q1 : f.yn * g.yd * (m.seenB + m.errB) = (m.seenB + m.errB) * g.yd * f.yn := by rw [Int.mul_comm (f.yn * g.yd), Int.mul_comm f.yn, ← Int.mul_assoc]
        have q2 : f.yd * g.yn * (m.seenA - m.errA) = (m.seenA - m.errA) * f.yd * g.yn := by rw [Int.mul_comm (f.yd * g.yn), ← Int.mul_assoc]
        have q3 : f.yn * g.yd * (m.seenB - m.errB) = (m.seenB - m.errB) * g.yd * f.yn := by rw [Int.mul_comm (f.yn * g.yd), Int.mul_comm f.yn, ← Int.mul_assoc]
        have q4 : f.yd * g.yn * (m.seenA + m.errA) = (m.seenA + m.errA) * f.yd * g.yn := by rw [Int.mul_comm (f.yd * g.yn), ← Int.mul_assoc]
        replace hp : (decide (f.yn * g.yd * (m.seenB + m.errB) ≥ f.yd * g.yn * (m.seenA - m.errA)) && decide (f.yn * g.yd * (m.seenB - m.errB) ≤ f.yd * g.yn * (m.seenA + m.errA))) = true := hp
        rw [q1, q2, q3, q4] at hp
        clear q1 q2 q3 q4
        simp only [Bool.and_eq_true, decide_eq_true_eq] at hp
        have u1 : ((m.seenB + m.errB) * g.yd * f.yn < (m.seenA - m.errA) * f.yd * g.yn) = False := by simp only [eq_iff_iff, iff_false]; omega
        have u2 : ((m.seenA + m.errA) * f.yd * g.yn < (m.seenB - m.errB) * g.yd * f.yn) = False := by simp only [eq_iff_iff, iff_false]; omega
        clear hp
        refine yw ?_
        try dsimp only [lp29_26, x8, yN, Tryd.f29]
        simp only [bW, if_true, Nat.reduceEqDiff, if_false]
        repeat' first
          | (intro hb; first | cases hb | skip)
          | ((first | apply zB | apply y7)
             · rfl
             · simp (disch := assumption) only [yx, z6, get, z5, z0, Nat.reduceEqDiff, decide_true, decide_false, cond_true, cond_false, yk, zr, zI, yg, zF, Bool.and_true, Bool.true_and, Bool.and_self, Bool.and_false, Bool.false_and, Bool.or_false, Bool.or_true, Bool.false_or, Bool.true_or, Bool.not_true, Bool.not_false, if_true, ye, List.length_cons, List.length_nil, yy, yb, z7, zu, zt, zl, List.getElem?_cons_zero, List.getElem?_cons_succ, Nat.reduceAdd, Nat.zero_add, Nat.add_zero, Nat.one_ne_zero, zT, zs, zp, yC, zG, bP, Ty.isAgg, yB, zX, zR, zm, yh, zh, zV, yj, zg, ofV, zQ, zS, Bool.false_eq_true, if_false, Nat.reduceLeDiff, Nat.reduceLT, List.take, List.drop, List.map_cons, List.map_nil, List.append_nil, List.nil_append, List.cons_append, List.set, unD, yf, snapAll, zy, yi, zJ, zj, yE, z8, zw, ym, zU, Int.toNat_natCast, Int.natCast_nonneg, Int.toNat_zero, Int.le_refl, Nat.reduceMul, Nat.zero_mul, Nat.mul_zero, yl, zc, zW, zq, zb, zf, yA, eqD, zo, zK, yp, zH, zk, Nat.le_refl, Array.toList_map, List.size_toArray, List.getElem?_toArray, Nat.sub_zero, List.length_append, Nat.mul_one, zv, yo, bO, bS, z9, ze, zC, List.replicate, zE, zD, y9, allOk, yu, y8, newRow, yM, List.isEmpty, Bool.not_false, Bool.not_true, decide_eq_true_eq, zM, zP, zO, zz, zx, yc, zi, Option.map_some, Option.map_none, Option.isNone, Option.isSome, Option.getD_none, Option.getD_some, yP, zN, zn, Int.reduceToNat, Int.reduceLE, Int.reduceLT, Int.reduceBNe, Int.reduceBEq, tys, cks, hlm, hlmf, hx, hmn, hnf', hlt', hw3, show (0 : Nat) < 2 from by decide, show (1 : Nat) < 2 from by decide, show IntKind.i64.wrap (0 + 1) = 1 from by decide, show IntKind.i64.wrap (1 + 1) = 2 from by decide, Int.toNat_natCast, c1N, c2N, c3N, hsN, hxf, c1M, c2M, c3M, hsM, hxg, w1, w2, w3, w4, w0, b3, b6, b9, b12, e1, e2, cmpI_gt0, Int.reduceToNat, Int.reduceLT, Int.reduceLE, Int.reduceGE, show (0 : Int).toNat = 0 from rfl, show (1 : Int).toNat = 1 from rfl, u1, u2]
               rfl
             · simp only [zd, yF, yD, z0, z5, Nat.reduceLT, Nat.reduceEqDiff, decide_true, decide_false, cond_true, cond_false]
               rfl
             · rfl
             first
             | (apply y6
                · simp only [za, z0, Nat.reduceLT, decide_true, cond_true, ins]
                  rfl
                · simp only [za, z0, Nat.reduceLT, decide_true, cond_true, ins]
                  rfl)
             | (apply yt
                · simp only [za, z0, Nat.reduceLT, decide_true, cond_true, ins]
                  rfl))
          | ((first | apply zZ | apply y5)
             · rfl
             · simp only [za, z0, Nat.reduceLT, decide_true, cond_true, ins]
               rfl)
          | (apply zY
             · simp only [z6, get, z5, Nat.reduceEqDiff, decide_true, decide_false, cond_true, cond_false])
          | (apply zA
             · simp only [z6, get, z5, Nat.reduceEqDiff, decide_true, decide_false, cond_true, cond_false])
          | (apply yq
             · kernel_rfl
             · kernel_rfl)
          | (simp only [bW, if_true, Nat.reduceEqDiff, if_false])
        all_goals exact x7 (st1 := ⟨197, [(1, .sl nf (fs.map xi) 4 none), (2, .lref 0 0 3 0), (11, I (i + 1 : Nat))], [(0, ⟨[yW p], 3, false⟩)], 1, 0⟩) lk29_26 (by kernel_rfl) hih

    | false =>
      rw [h' (by simp only [List.all_cons, hp, Bool.false_and])]
      clear ih h h'
      unfold joinFine at hp
      rcases hax with hax | hax
      · have w0 := hax
        rw [hax, hfaf, hfag] at hp
        obtain ⟨b1, b2, b3⟩ := mulB (a := m.seenA - m.errA) (b := f.xd) (by omega) (by omega) (by omega) (by omega)
        obtain ⟨b4, b5, b6⟩ := mulB (a := m.seenA + m.errA) (b := f.xd) (by omega) (by omega) (by omega) (by omega)
        obtain ⟨b7, b8, b9⟩ := mulB (a := m.seenB - m.errB) (b := g.xd) (by omega) (by omega) (by omega) (by omega)
        obtain ⟨b10, b11, b12⟩ := mulB (a := m.seenB + m.errB) (b := g.xd) (by omega) (by omega) (by omega) (by omega)
        have e1 := t23i ((m.seenA - m.errA) * f.xd) f.xn ((m.seenB + m.errB) * g.xd) g.xn b1 b2 (by omega) (by omega) b10 b11 (by omega) (by omega)
        have e2 := t23i ((m.seenB - m.errB) * g.xd) g.xn ((m.seenA + m.errA) * f.xd) f.xn b7 b8 (by omega) (by omega) b4 b5 (by omega) (by omega)
        have q1 : f.xn * g.xd * (m.seenB + m.errB) = (m.seenB + m.errB) * g.xd * f.xn := by rw [Int.mul_comm (f.xn * g.xd), Int.mul_comm f.xn, ← Int.mul_assoc]
        have q2 : f.xd * g.xn * (m.seenA - m.errA) = (m.seenA - m.errA) * f.xd * g.xn := by rw [Int.mul_comm (f.xd * g.xn), ← Int.mul_assoc]
        have q3 : f.xn * g.xd * (m.seenB - m.errB) = (m.seenB - m.errB) * g.xd * f.xn := by rw [Int.mul_comm (f.xn * g.xd), Int.mul_comm f.xn, ← Int.mul_assoc]
        have q4 : f.xd * g.xn * (m.seenA + m.errA) = (m.seenA + m.errA) * f.xd * g.xn := by rw [Int.mul_comm (f.xd * g.xn), ← Int.mul_assoc]
        replace hp : (decide (f.xn * g.xd * (m.seenB + m.errB) ≥ f.xd * g.xn * (m.seenA - m.errA)) && decide (f.xn * g.xd * (m.seenB - m.errB) ≤ f.xd * g.xn * (m.seenA + m.errA))) = false := hp
        rw [q1, q2, q3, q4] at hp
        clear q1 q2 q3 q4
        by_cases v1 : (m.seenB + m.errB) * g.xd * f.xn < (m.seenA - m.errA) * f.xd * g.xn
        · have u1 : ((m.seenB + m.errB) * g.xd * f.xn < (m.seenA - m.errA) * f.xd * g.xn) = True := by simp only [v1]
          clear hp
          refine yw ?_
          try dsimp only [lp29_26, x8, yN, Tryd.f29]
          simp only [bW, if_true, Nat.reduceEqDiff, if_false]
          repeat' first
            | (intro hb; first | cases hb | skip)
            | ((first | apply zB | apply y7)
               · rfl
               · simp (disch := assumption) only [yx, z6, get, z5, z0, Nat.reduceEqDiff, decide_true, decide_false, cond_true, cond_false, yk, zr, zI, yg, zF, Bool.and_true, Bool.true_and, Bool.and_self, Bool.and_false, Bool.false_and, Bool.or_false, Bool.or_true, Bool.false_or, Bool.true_or, Bool.not_true, Bool.not_false, if_true, ye, List.length_cons, List.length_nil, yy, yb, z7, zu, zt, zl, List.getElem?_cons_zero, List.getElem?_cons_succ, Nat.reduceAdd, Nat.zero_add, Nat.add_zero, Nat.one_ne_zero, zT, zs, zp, yC, zG, bP, Ty.isAgg, yB, zX, zR, zm, yh, zh, zV, yj, zg, ofV, zQ, zS, Bool.false_eq_true, if_false, Nat.reduceLeDiff, Nat.reduceLT, List.take, List.drop, List.map_cons, List.map_nil, List.append_nil, List.nil_append, List.cons_append, List.set, unD, yf, snapAll, zy, yi, zJ, zj, yE, z8, zw, ym, zU, Int.toNat_natCast, Int.natCast_nonneg, Int.toNat_zero, Int.le_refl, Nat.reduceMul, Nat.zero_mul, Nat.mul_zero, yl, zc, zW, zq, zb, zf, yA, eqD, zo, zK, yp, zH, zk, Nat.le_refl, Array.toList_map, List.size_toArray, List.getElem?_toArray, Nat.sub_zero, List.length_append, Nat.mul_one, zv, yo, bO, bS, z9, ze, zC, List.replicate, zE, zD, y9, allOk, yu, y8, newRow, yM, List.isEmpty, Bool.not_false, Bool.not_true, decide_eq_true_eq, zM, zP, zO, zz, zx, yc, zi, Option.map_some, Option.map_none, Option.isNone, Option.isSome, Option.getD_none, Option.getD_some, yP, zN, zn, Int.reduceToNat, Int.reduceLE, Int.reduceLT, Int.reduceBNe, Int.reduceBEq, tys, cks, hlm, hlmf, hx, hmn, hnf', hlt', hw3, show (0 : Nat) < 2 from by decide, show (1 : Nat) < 2 from by decide, show IntKind.i64.wrap (0 + 1) = 1 from by decide, show IntKind.i64.wrap (1 + 1) = 2 from by decide, Int.toNat_natCast, c1N, c2N, c3N, hsN, hxf, c1M, c2M, c3M, hsM, hxg, w1, w2, w3, w4, w0, b3, b6, b9, b12, e1, e2, cmpI_gt0, Int.reduceToNat, Int.reduceLT, Int.reduceLE, Int.reduceGE, show (0 : Int).toNat = 0 from rfl, show (1 : Int).toNat = 1 from rfl, u1]
                 rfl
               · simp only [zd, yF, yD, z0, z5, Nat.reduceLT, Nat.reduceEqDiff, decide_true, decide_false, cond_true, cond_false]
                 rfl
               · rfl
               first
               | (apply y6
                  · simp only [za, z0, Nat.reduceLT, decide_true, cond_true, ins]
                    rfl
                  · simp only [za, z0, Nat.reduceLT, decide_true, cond_true, ins]
                    rfl)
               | (apply yt
                  · simp only [za, z0, Nat.reduceLT, decide_true, cond_true, ins]
                    rfl))
            | ((first | apply zZ | apply y5)
               · rfl
               · simp only [za, z0, Nat.reduceLT, decide_true, cond_true, ins]
                 rfl)
            | (apply zY
               · simp only [z6, get, z5, Nat.reduceEqDiff, decide_true, decide_false, cond_true, cond_false])
            | (apply zA
               · simp only [z6, get, z5, Nat.reduceEqDiff, decide_true, decide_false, cond_true, cond_false])
            | (apply yq
               · kernel_rfl
               · kernel_rfl)
            | (simp only [bW, if_true, Nat.reduceEqDiff, if_false])
          all_goals exact hk _ rfl
        · have u1 : ((m.seenB + m.errB) * g.xd * f.xn < (m.seenA - m.errA) * f.xd * g.xn) = False := by simp only [v1]
          have v2 : (m.seenA + m.errA) * f.xd * g.xn < (m.seenB - m.errB) * g.xd * f.xn := by
            simp only [Bool.and_eq_false_iff, decide_eq_false_iff_not] at hp
            omega
          have u2 : ((m.seenA + m.errA) * f.xd * g.xn < (m.seenB - m.errB) * g.xd * f.xn) = True := by simp only [v2]
          clear hp
          refine yw ?_
          try dsimp only [lp29_26, x8, yN, Tryd.f29]
          simp only [bW, if_true, Nat.reduceEqDiff, if_false]
          repeat' first
            | (intro hb; first | cases hb | skip)
            | ((first | apply zB | apply y7)
               · rfl
               · simp (disch := assumption) only [yx, z6, get, z5, z0, Nat.reduceEqDiff, decide_true, decide_false, cond_true, cond_false, yk, zr, zI, yg, zF, Bool.and_true, Bool.true_and, Bool.and_self, Bool.and_false, Bool.false_and, Bool.or_false, Bool.or_true, Bool.false_or, Bool.true_or, Bool.not_true, Bool.not_false, if_true, ye, List.length_cons, List.length_nil, yy, yb, z7, zu, zt, zl, List.getElem?_cons_zero, List.getElem?_cons_succ, Nat.reduceAdd, Nat.zero_add, Nat.add_zero, Nat.one_ne_zero, zT, zs, zp, yC, zG, bP, Ty.isAgg, yB, zX, zR, zm, yh, zh, zV, yj, zg, ofV, zQ, zS, Bool.false_eq_true, if_false, Nat.reduceLeDiff, Nat.reduceLT, List.take, List.drop, List.map_cons, List.map_nil, List.append_nil, List.nil_append, List.cons_append, List.set, unD, yf, snapAll, zy, yi, zJ, zj, yE, z8, zw, ym, zU, Int.toNat_natCast, Int.natCast_nonneg, Int.toNat_zero, Int.le_refl, Nat.reduceMul, Nat.zero_mul, Nat.mul_zero, yl, zc, zW, zq, zb, zf, yA, eqD, zo, zK, yp, zH, zk, Nat.le_refl, Array.toList_map, List.size_toArray, List.getElem?_toArray, Nat.sub_zero, List.length_append, Nat.mul_one, zv, yo, bO, bS, z9, ze, zC, List.replicate, zE, zD, y9, allOk, yu, y8, newRow, yM, List.isEmpty, Bool.not_false, Bool.not_true, decide_eq_true_eq, zM, zP, zO, zz, zx, yc, zi, Option.map_some, Option.map_none, Option.isNone, Option.isSome, Option.getD_none, Option.getD_some, yP, zN, zn, Int.reduceToNat, Int.reduceLE, Int.reduceLT, Int.reduceBNe, Int.reduceBEq, tys, cks, hlm, hlmf, hx, hmn, hnf', hlt', hw3, show (0 : Nat) < 2 from by decide, show (1 : Nat) < 2 from by decide, show IntKind.i64.wrap (0 + 1) = 1 from by decide, show IntKind.i64.wrap (1 + 1) = 2 from by decide, Int.toNat_natCast, c1N, c2N, c3N, hsN, hxf, c1M, c2M, c3M, hsM, hxg, w1, w2, w3, w4, w0, b3, b6, b9, b12, e1, e2, cmpI_gt0, Int.reduceToNat, Int.reduceLT, Int.reduceLE, Int.reduceGE, show (0 : Int).toNat = 0 from rfl, show (1 : Int).toNat = 1 from rfl, u1, u2]
                 rfl
               · simp only [zd, yF, yD, z0, z5, Nat.reduceLT, Nat.reduceEqDiff, decide_true, decide_false, cond_true, cond_false]
                 rfl
               · rfl
               first
               | (apply y6
                  · simp only [za, z0, Nat.reduceLT, decide_true, cond_true, ins]
                    rfl
                  · simp only [za, z0, Nat.reduceLT, decide_true, cond_true, ins]
                    rfl)
               | (apply yt
                  · simp only [za, z0, Nat.reduceLT, decide_true, cond_true, ins]
                    rfl))
            | ((first | apply zZ | apply y5)
               · rfl
               · simp only [za, z0, Nat.reduceLT, decide_true, cond_true, ins]
                 rfl)
            | (apply zY
               · simp only [z6, get, z5, Nat.reduceEqDiff, decide_true, decide_false, cond_true, cond_false])
            | (apply zA
               · simp only [z6, get, z5, Nat.reduceEqDiff, decide_true, decide_false, cond_true, cond_false])
            | (apply yq
               · kernel_rfl
               · kernel_rfl)
            | (simp only [bW, if_true, Nat.reduceEqDiff, if_false])
          all_goals exact hk _ rfl
      · have w0 := hax
        rw [hax, hfaf, hfag] at hp
        obtain ⟨b1, b2, b3⟩ := mulB (a := m.seenA - m.errA) (b := f.yd) (by omega) (by omega) (by omega) (by omega)
        obtain ⟨b4, b5, b6⟩ := mulB (a := m.seenA + m.errA) (b := f.yd) (by omega) (by omega) (by omega) (by omega)
        obtain ⟨b7, b8, b9⟩ := mulB (a := m.seenB - m.errB) (b := g.yd) (by omega) (by omega) (by omega) (by omega)
        obtain ⟨b10, b11, b12⟩ := mulB (a := m.seenB + m.errB) (b := g.yd) (by omega) (by omega) (by omega) (by omega)
        have e1 := t23i ((m.seenA - m.errA) * f.yd) f.yn ((m.seenB + m.errB) * g.yd) g.yn b1 b2 (by omega) (by omega) b10 b11 (by omega) (by omega)
        have e2 := t23i ((m.seenB - m.errB) * g.yd) g.yn ((m.seenA + m.errA) * f.yd) f.yn b7 b8 (by omega) (by omega) b4 b5 (by omega) (by omega)
        have q1 : f.yn * g.yd * (m.seenB + m.errB) = (m.seenB + m.errB) * g.yd * f.yn := by rw [Int.mul_comm (f.yn * g.yd), Int.mul_comm f.yn, ← Int.mul_assoc]
        have q2 : f.yd * g.yn * (m.seenA - m.errA) = (m.seenA - m.errA) * f.yd * g.yn := by rw [Int.mul_comm (f.yd * g.yn), ← Int.mul_assoc]
        have q3 : f.yn * g.yd * (m.seenB - m.errB) = (m.seenB - m.errB) * g.yd * f.yn := by rw [Int.mul_comm (f.yn * g.yd), Int.mul_comm f.yn, ← Int.mul_assoc]
        have q4 : f.yd * g.yn * (m.seenA + m.errA) = (m.seenA + m.errA) * f.yd * g.yn := by rw [Int.mul_comm (f.yd * g.yn), ← Int.mul_assoc]
        replace hp : (decide (f.yn * g.yd * (m.seenB + m.errB) ≥ f.yd * g.yn * (m.seenA - m.errA)) && decide (f.yn * g.yd * (m.seenB - m.errB) ≤ f.yd * g.yn * (m.seenA + m.errA))) = false := hp
        rw [q1, q2, q3, q4] at hp
        clear q1 q2 q3 q4
        by_cases v1 : (m.seenB + m.errB) * g.yd * f.yn < (m.seenA - m.errA) * f.yd * g.yn
        · have u1 : ((m.seenB + m.errB) * g.yd * f.yn < (m.seenA - m.errA) * f.yd * g.yn) = True := by simp only [v1]
          clear hp
          refine yw ?_
          try dsimp only [lp29_26, x8, yN, Tryd.f29]
          simp only [bW, if_true, Nat.reduceEqDiff, if_false]
          repeat' first
            | (intro hb; first | cases hb | skip)
            | ((first | apply zB | apply y7)
               · rfl
               · simp (disch := assumption) only [yx, z6, get, z5, z0, Nat.reduceEqDiff, decide_true, decide_false, cond_true, cond_false, yk, zr, zI, yg, zF, Bool.and_true, Bool.true_and, Bool.and_self, Bool.and_false, Bool.false_and, Bool.or_false, Bool.or_true, Bool.false_or, Bool.true_or, Bool.not_true, Bool.not_false, if_true, ye, List.length_cons, List.length_nil, yy, yb, z7, zu, zt, zl, List.getElem?_cons_zero, List.getElem?_cons_succ, Nat.reduceAdd, Nat.zero_add, Nat.add_zero, Nat.one_ne_zero, zT, zs, zp, yC, zG, bP, Ty.isAgg, yB, zX, zR, zm, yh, zh, zV, yj, zg, ofV, zQ, zS, Bool.false_eq_true, if_false, Nat.reduceLeDiff, Nat.reduceLT, List.take, List.drop, List.map_cons, List.map_nil, List.append_nil, List.nil_append, List.cons_append, List.set, unD, yf, snapAll, zy, yi, zJ, zj, yE, z8, zw, ym, zU, Int.toNat_natCast, Int.natCast_nonneg, Int.toNat_zero, Int.le_refl, Nat.reduceMul, Nat.zero_mul, Nat.mul_zero, yl, zc, zW, zq, zb, zf, yA, eqD, zo, zK, yp, zH, zk, Nat.le_refl, Array.toList_map, List.size_toArray, List.getElem?_toArray, Nat.sub_zero, List.length_append, Nat.mul_one, zv, yo, bO, bS, z9, ze, zC, List.replicate, zE, zD, y9, allOk, yu, y8, newRow, yM, List.isEmpty, Bool.not_false, Bool.not_true, decide_eq_true_eq, zM, zP, zO, zz, zx, yc, zi, Option.map_some, Option.map_none, Option.isNone, Option.isSome, Option.getD_none, Option.getD_some, yP, zN, zn, Int.reduceToNat, Int.reduceLE, Int.reduceLT, Int.reduceBNe, Int.reduceBEq, tys, cks, hlm, hlmf, hx, hmn, hnf', hlt', hw3, show (0 : Nat) < 2 from by decide, show (1 : Nat) < 2 from by decide, show IntKind.i64.wrap (0 + 1) = 1 from by decide, show IntKind.i64.wrap (1 + 1) = 2 from by decide, Int.toNat_natCast, c1N, c2N, c3N, hsN, hxf, c1M, c2M, c3M, hsM, hxg, w1, w2, w3, w4, w0, b3, b6, b9, b12, e1, e2, cmpI_gt0, Int.reduceToNat, Int.reduceLT, Int.reduceLE, Int.reduceGE, show (0 : Int).toNat = 0 from rfl, show (1 : Int).toNat = 1 from rfl, u1]
                 rfl
               · simp only [zd, yF, yD, z0, z5, Nat.reduceLT, Nat.reduceEqDiff, decide_true, decide_false, cond_true, cond_false]
                 rfl
               · rfl
               first
               | (apply y6
                  · simp only [za, z0, Nat.reduceLT, decide_true, cond_true, ins]
                    rfl
                  · simp only [za, z0, Nat.reduceLT, decide_true, cond_true, ins]
                    rfl)
               | (apply yt
                  · simp only [za, z0, Nat.reduceLT, decide_true, cond_true, ins]
                    rfl))
            | ((first | apply zZ | apply y5)
               · rfl
               · simp only [za, z0, Nat.reduceLT, decide_true, cond_true, ins]
                 rfl)
            | (apply zY
               · simp only [z6, get, z5, Nat.reduceEqDiff, decide_true, decide_false, cond_true, cond_false])
            | (apply zA
               · simp only [z6, get, z5, Nat.reduceEqDiff, decide_true, decide_false, cond_true, cond_false])
            | (apply yq
               · kernel_rfl
               · kernel_rfl)
            | (simp only [bW, if_true, Nat.reduceEqDiff, if_false])
          all_goals exact hk _ rfl
        · have u1 : ((m.seenB + m.errB) * g.yd * f.yn < (m.seenA - m.errA) * f.yd * g.yn) = False := by simp only [v1]
          have v2 : (m.seenA + m.errA) * f.yd * g.yn < (m.seenB - m.errB) * g.yd * f.yn := by
            simp only [Bool.and_eq_false_iff, decide_eq_false_iff_not] at hp
            omega
          have u2 : ((m.seenA + m.errA) * f.yd * g.yn < (m.seenB - m.errB) * g.yd * f.yn) = True := by simp only [v2]
          clear hp
          refine yw ?_
          try dsimp only [lp29_26, x8, yN, Tryd.f29]
          simp only [bW, if_true, Nat.reduceEqDiff, if_false]
          repeat' first
            | (intro hb; first | cases hb | skip)
            | ((first | apply zB | apply y7)
               · rfl
               · simp (disch := assumption) only [yx, z6, get, z5, z0, Nat.reduceEqDiff, decide_true, decide_false, cond_true, cond_false, yk, zr, zI, yg, zF, Bool.and_true, Bool.true_and, Bool.and_self, Bool.and_false, Bool.false_and, Bool.or_false, Bool.or_true, Bool.false_or, Bool.true_or, Bool.not_true, Bool.not_false, if_true, ye, List.length_cons, List.length_nil, yy, yb, z7, zu, zt, zl, List.getElem?_cons_zero, List.getElem?_cons_succ, Nat.reduceAdd, Nat.zero_add, Nat.add_zero, Nat.one_ne_zero, zT, zs, zp, yC, zG, bP, Ty.isAgg, yB, zX, zR, zm, yh, zh, zV, yj, zg, ofV, zQ, zS, Bool.false_eq_true, if_false, Nat.reduceLeDiff, Nat.reduceLT, List.take, List.drop, List.map_cons, List.map_nil, List.append_nil, List.nil_append, List.cons_append, List.set, unD, yf, snapAll, zy, yi, zJ, zj, yE, z8, zw, ym, zU, Int.toNat_natCast, Int.natCast_nonneg, Int.toNat_zero, Int.le_refl, Nat.reduceMul, Nat.zero_mul, Nat.mul_zero, yl, zc, zW, zq, zb, zf, yA, eqD, zo, zK, yp, zH, zk, Nat.le_refl, Array.toList_map, List.size_toArray, List.getElem?_toArray, Nat.sub_zero, List.length_append, Nat.mul_one, zv, yo, bO, bS, z9, ze, zC, List.replicate, zE, zD, y9, allOk, yu, y8, newRow, yM, List.isEmpty, Bool.not_false, Bool.not_true, decide_eq_true_eq, zM, zP, zO, zz, zx, yc, zi, Option.map_some, Option.map_none, Option.isNone, Option.isSome, Option.getD_none, Option.getD_some, yP, zN, zn, Int.reduceToNat, Int.reduceLE, Int.reduceLT, Int.reduceBNe, Int.reduceBEq, tys, cks, hlm, hlmf, hx, hmn, hnf', hlt', hw3, show (0 : Nat) < 2 from by decide, show (1 : Nat) < 2 from by decide, show IntKind.i64.wrap (0 + 1) = 1 from by decide, show IntKind.i64.wrap (1 + 1) = 2 from by decide, Int.toNat_natCast, c1N, c2N, c3N, hsN, hxf, c1M, c2M, c3M, hsM, hxg, w1, w2, w3, w4, w0, b3, b6, b9, b12, e1, e2, cmpI_gt0, Int.reduceToNat, Int.reduceLT, Int.reduceLE, Int.reduceGE, show (0 : Int).toNat = 0 from rfl, show (1 : Int).toNat = 1 from rfl, u1, u2]
                 rfl
               · simp only [zd, yF, yD, z0, z5, Nat.reduceLT, Nat.reduceEqDiff, decide_true, decide_false, cond_true, cond_false]
                 rfl
               · rfl
               first
               | (apply y6
                  · simp only [za, z0, Nat.reduceLT, decide_true, cond_true, ins]
                    rfl
                  · simp only [za, z0, Nat.reduceLT, decide_true, cond_true, ins]
                    rfl)
               | (apply yt
                  · simp only [za, z0, Nat.reduceLT, decide_true, cond_true, ins]
                    rfl))
            | ((first | apply zZ | apply y5)
               · rfl
               · simp only [za, z0, Nat.reduceLT, decide_true, cond_true, ins]
                 rfl)
            | (apply zY
               · simp only [z6, get, z5, Nat.reduceEqDiff, decide_true, decide_false, cond_true, cond_false])
            | (apply zA
               · simp only [z6, get, z5, Nat.reduceEqDiff, decide_true, decide_false, cond_true, cond_false])
            | (apply yq
               · kernel_rfl
               · kernel_rfl)
            | (simp only [bW, if_true, Nat.reduceEqDiff, if_false])
          all_goals exact hk _ rfl


theorem t29 (p : Paper) (fs : List F4) (nf : Bool) (sf : Nat) (hwf : p.wf) (hnf : nf = true → fs = []) (hsf : nf = false → sf = 4) (hl : fs.length ≤ 9223372036854775807) : (lim cfg).pure 29 [yW p, .sl nf (fs.map xi) sf none] = some (I (checkFF p fs)) := by
  have hlfi := len_if (f := xi) hnf
  have h28 := t28 p hwf
  refine yR (yG 29) cfn29 rfl (n := 197) rfl ?_
  generalize hF : xf cfg Tryd.f29 = F
  simp only [bW, if_true, Nat.reduceEqDiff, if_false, yJ]
  have hret : ∀ (v : Int) st, get st.tmps 4 = I v → F .ret st = some (I v) := by
    intro v st h
    subst hF
    simp only [xf, finF, yI, yX, zl, get, zG, z5, Nat.reduceEqDiff, decide_true, decide_false, cond_true, cond_false, yV, snapAll, zy, List.getElem?_cons_zero, List.getElem?_cons_succ, bP, Ty.isAgg, if_true, if_false, Bool.false_eq_true, Nat.zero_add, Nat.add_zero, List.length_cons, List.length_nil, Nat.reduceAdd, Nat.reduceLeDiff, List.take, List.drop, Bool.true_and, Bool.and_self, Nat.le_refl, List.map_cons, List.length_map, List.append_nil, List.nil_append, List.cons_append, Nat.sub_zero, bO, bS, tys, Tryd.f29, h]
  cases hok : xc p with
  | false =>
    rw [show check p = 30 by simp [check, hok]] at h28
    rw [show checkFF p fs = 30 by simp [checkFF, hok]]
    repeat' first
      | (intro hb; first | cases hb | skip)
      | ((first | apply zB | apply y7)
         · rfl
         · simp (disch := assumption) only [yx, z6, get, z5, z0, Nat.reduceEqDiff, decide_true, decide_false, cond_true, cond_false, yk, zr, zI, yg, zF, Bool.and_true, Bool.true_and, Bool.and_self, Bool.and_false, Bool.false_and, Bool.or_false, Bool.or_true, Bool.false_or, Bool.true_or, Bool.not_true, Bool.not_false, if_true, ye, List.length_cons, List.length_nil, yy, yb, z7, zu, zt, zl, List.getElem?_cons_zero, List.getElem?_cons_succ, Nat.reduceAdd, Nat.zero_add, Nat.add_zero, Nat.one_ne_zero, zT, zs, zp, yC, zG, bP, Ty.isAgg, yB, zX, zR, zm, yh, zh, zV, yj, zg, ofV, zQ, zS, Bool.false_eq_true, if_false, Nat.reduceLeDiff, Nat.reduceLT, List.take, List.drop, List.map_cons, List.map_nil, List.append_nil, List.nil_append, List.cons_append, List.set, unD, yf, snapAll, zy, yi, zJ, zj, yE, z8, zw, ym, zU, Int.toNat_natCast, Int.natCast_nonneg, Int.toNat_zero, Int.le_refl, Nat.reduceMul, Nat.zero_mul, Nat.mul_zero, yl, zc, zW, zq, zb, zf, yA, eqD, zo, zK, yp, zH, zk, Nat.le_refl, Array.toList_map, List.size_toArray, List.getElem?_toArray, Nat.sub_zero, List.length_append, Nat.mul_one, zv, yo, bO, bS, z9, ze, zC, List.replicate, zE, zD, y9, allOk, yu, y8, newRow, yM, List.isEmpty, Bool.not_false, Bool.not_true, decide_eq_true_eq, zM, zP, zO, zz, zx, yc, zi, Option.map_some, Option.map_none, Option.isNone, Option.isSome, Option.getD_none, Option.getD_some, yP, zN, zn, Int.reduceToNat, Int.reduceLE, Int.reduceLT, Int.reduceBNe, Int.reduceBEq, tys, cks, h28]
           rfl
         · simp only [zd, yF, yD, z0, z5, Nat.reduceLT, Nat.reduceEqDiff, decide_true, decide_false, cond_true, cond_false]
           rfl
         · rfl
         first
         | (apply y6
            · simp only [za, z0, Nat.reduceLT, decide_true, cond_true, ins]
              rfl
            · simp only [za, z0, Nat.reduceLT, decide_true, cond_true, ins]
              rfl)
         | (apply yt
            · simp only [za, z0, Nat.reduceLT, decide_true, cond_true, ins]
              rfl))
      | ((first | apply zZ | apply y5)
         · rfl
         · simp only [za, z0, Nat.reduceLT, decide_true, cond_true, ins]
           rfl)
      | (apply zY
         · simp only [z6, get, z5, Nat.reduceEqDiff, decide_true, decide_false, cond_true, cond_false])
      | (apply zA
         · simp only [z6, get, z5, Nat.reduceEqDiff, decide_true, decide_false, cond_true, cond_false])
      | (apply yq
         · kernel_rfl
         · kernel_rfl)
      | (simp only [bW, if_true, Nat.reduceEqDiff, if_false])
    exact hret 30 _ rfl
  | true =>
  rw [show check p = 0 by simp [check, hok]] at h28
  by_cases hlen : (fs.length : Int) = p.sheets
  case neg =>
    have hb : ((fs.length : Int) != p.sheets) = true := by simp [hlen]
    rw [show checkFF p fs = 1 by simp [checkFF, hok, hlen]]
    repeat' first
      | (intro hb; first | cases hb | skip)
      | ((first | apply zB | apply y7)
         · rfl
         · simp (disch := assumption) only [yx, z6, get, z5, z0, Nat.reduceEqDiff, decide_true, decide_false, cond_true, cond_false, yk, zr, zI, yg, zF, Bool.and_true, Bool.true_and, Bool.and_self, Bool.and_false, Bool.false_and, Bool.or_false, Bool.or_true, Bool.false_or, Bool.true_or, Bool.not_true, Bool.not_false, if_true, ye, List.length_cons, List.length_nil, yy, yb, z7, zu, zt, zl, List.getElem?_cons_zero, List.getElem?_cons_succ, Nat.reduceAdd, Nat.zero_add, Nat.add_zero, Nat.one_ne_zero, zT, zs, zp, yC, zG, bP, Ty.isAgg, yB, zX, zR, zm, yh, zh, zV, yj, zg, ofV, zQ, zS, Bool.false_eq_true, if_false, Nat.reduceLeDiff, Nat.reduceLT, List.take, List.drop, List.map_cons, List.map_nil, List.append_nil, List.nil_append, List.cons_append, List.set, unD, yf, snapAll, zy, yi, zJ, zj, yE, z8, zw, ym, zU, Int.toNat_natCast, Int.natCast_nonneg, Int.toNat_zero, Int.le_refl, Nat.reduceMul, Nat.zero_mul, Nat.mul_zero, yl, zc, zW, zq, zb, zf, yA, eqD, zo, zK, yp, zH, zk, Nat.le_refl, Array.toList_map, List.size_toArray, List.getElem?_toArray, Nat.sub_zero, List.length_append, Nat.mul_one, zv, yo, bO, bS, z9, ze, zC, List.replicate, zE, zD, y9, allOk, yu, y8, newRow, yM, List.isEmpty, Bool.not_false, Bool.not_true, decide_eq_true_eq, zM, zP, zO, zz, zx, yc, zi, Option.map_some, Option.map_none, Option.isNone, Option.isSome, Option.getD_none, Option.getD_some, yP, zN, zn, Int.reduceToNat, Int.reduceLE, Int.reduceLT, Int.reduceBNe, Int.reduceBEq, tys, cks, h28, hlfi, hb]
           rfl
         · simp only [zd, yF, yD, z0, z5, Nat.reduceLT, Nat.reduceEqDiff, decide_true, decide_false, cond_true, cond_false]
           rfl
         · rfl
         first
         | (apply y6
            · simp only [za, z0, Nat.reduceLT, decide_true, cond_true, ins]
              rfl
            · simp only [za, z0, Nat.reduceLT, decide_true, cond_true, ins]
              rfl)
         | (apply yt
            · simp only [za, z0, Nat.reduceLT, decide_true, cond_true, ins]
              rfl))
      | ((first | apply zZ | apply y5)
         · rfl
         · simp only [za, z0, Nat.reduceLT, decide_true, cond_true, ins]
           rfl)
      | (apply zY
         · simp only [z6, get, z5, Nat.reduceEqDiff, decide_true, decide_false, cond_true, cond_false])
      | (apply zA
         · simp only [z6, get, z5, Nat.reduceEqDiff, decide_true, decide_false, cond_true, cond_false])
      | (apply yq
         · kernel_rfl
         · kernel_rfl)
      | (simp only [bW, if_true, Nat.reduceEqDiff, if_false])
    exact hret 1 _ rfl
  have hb : ((fs.length : Int) != p.sheets) = false := by simp [hlen]
  repeat' first
    | (intro hb; first | cases hb | skip)
    | ((first | apply zB | apply y7)
       · rfl
       · simp (disch := assumption) only [yx, z6, get, z5, z0, Nat.reduceEqDiff, decide_true, decide_false, cond_true, cond_false, yk, zr, zI, yg, zF, Bool.and_true, Bool.true_and, Bool.and_self, Bool.and_false, Bool.false_and, Bool.or_false, Bool.or_true, Bool.false_or, Bool.true_or, Bool.not_true, Bool.not_false, if_true, ye, List.length_cons, List.length_nil, yy, yb, z7, zu, zt, zl, List.getElem?_cons_zero, List.getElem?_cons_succ, Nat.reduceAdd, Nat.zero_add, Nat.add_zero, Nat.one_ne_zero, zT, zs, zp, yC, zG, bP, Ty.isAgg, yB, zX, zR, zm, yh, zh, zV, yj, zg, ofV, zQ, zS, Bool.false_eq_true, if_false, Nat.reduceLeDiff, Nat.reduceLT, List.take, List.drop, List.map_cons, List.map_nil, List.append_nil, List.nil_append, List.cons_append, List.set, unD, yf, snapAll, zy, yi, zJ, zj, yE, z8, zw, ym, zU, Int.toNat_natCast, Int.natCast_nonneg, Int.toNat_zero, Int.le_refl, Nat.reduceMul, Nat.zero_mul, Nat.mul_zero, yl, zc, zW, zq, zb, zf, yA, eqD, zo, zK, yp, zH, zk, Nat.le_refl, Array.toList_map, List.size_toArray, List.getElem?_toArray, Nat.sub_zero, List.length_append, Nat.mul_one, zv, yo, bO, bS, z9, ze, zC, List.replicate, zE, zD, y9, allOk, yu, y8, newRow, yM, List.isEmpty, Bool.not_false, Bool.not_true, decide_eq_true_eq, zM, zP, zO, zz, zx, yc, zi, Option.map_some, Option.map_none, Option.isNone, Option.isSome, Option.getD_none, Option.getD_some, yP, zN, zn, Int.reduceToNat, Int.reduceLE, Int.reduceLT, Int.reduceBNe, Int.reduceBEq, tys, cks, h28, hlfi, hb]
         rfl
       · simp only [zd, yF, yD, z0, z5, Nat.reduceLT, Nat.reduceEqDiff, decide_true, decide_false, cond_true, cond_false]
         rfl
       · rfl
       first
       | (apply y6
          · simp only [za, z0, Nat.reduceLT, decide_true, cond_true, ins]
            rfl
          · simp only [za, z0, Nat.reduceLT, decide_true, cond_true, ins]
            rfl)
       | (apply yt
          · simp only [za, z0, Nat.reduceLT, decide_true, cond_true, ins]
            rfl))
    | ((first | apply zZ | apply y5)
       · rfl
       · simp only [za, z0, Nat.reduceLT, decide_true, cond_true, ins]
         rfl)
    | (apply zY
       · simp only [z6, get, z5, Nat.reduceEqDiff, decide_true, decide_false, cond_true, cond_false])
    | (apply zA
       · simp only [z6, get, z5, Nat.reduceEqDiff, decide_true, decide_false, cond_true, cond_false])
    | (apply yq
       · kernel_rfl
       · kernel_rfl)
    | (simp only [bW, if_true, Nat.reduceEqDiff, if_false])
  refine w_loop (st1 := ⟨197, [(1, .sl nf (fs.map xi) sf none), (2, .lref 0 0 3 0), (6, I (0 : Nat))], [(0, ⟨[yW p], 3, false⟩)], 1, 0⟩) lk29_7 (by kernel_rfl) (L29_7 p fs nf sf _ _ hnf hsf hl (fun st h => by simp only [bW, if_true, Nat.reduceEqDiff, if_false]; exact hret 1 st h) fs 0 rfl (Nat.zero_le _) (fun h7 => ?_) (fun h7 => ?_))
  rotate_left
  · simp [checkFF, hok, h7]
  simp only [bW, if_true, Nat.reduceEqDiff, if_false]
  repeat' first
    | (intro hb; first | cases hb | skip)
    | ((first | apply zB | apply y7)
       · rfl
       · simp (disch := assumption) only [yx, z6, get, z5, z0, Nat.reduceEqDiff, decide_true, decide_false, cond_true, cond_false, yk, zr, zI, yg, zF, Bool.and_true, Bool.true_and, Bool.and_self, Bool.and_false, Bool.false_and, Bool.or_false, Bool.or_true, Bool.false_or, Bool.true_or, Bool.not_true, Bool.not_false, if_true, ye, List.length_cons, List.length_nil, yy, yb, z7, zu, zt, zl, List.getElem?_cons_zero, List.getElem?_cons_succ, Nat.reduceAdd, Nat.zero_add, Nat.add_zero, Nat.one_ne_zero, zT, zs, zp, yC, zG, bP, Ty.isAgg, yB, zX, zR, zm, yh, zh, zV, yj, zg, ofV, zQ, zS, Bool.false_eq_true, if_false, Nat.reduceLeDiff, Nat.reduceLT, List.take, List.drop, List.map_cons, List.map_nil, List.append_nil, List.nil_append, List.cons_append, List.set, unD, yf, snapAll, zy, yi, zJ, zj, yE, z8, zw, ym, zU, Int.toNat_natCast, Int.natCast_nonneg, Int.toNat_zero, Int.le_refl, Nat.reduceMul, Nat.zero_mul, Nat.mul_zero, yl, zc, zW, zq, zb, zf, yA, eqD, zo, zK, yp, zH, zk, Nat.le_refl, Array.toList_map, List.size_toArray, List.getElem?_toArray, Nat.sub_zero, List.length_append, Nat.mul_one, zv, yo, bO, bS, z9, ze, zC, List.replicate, zE, zD, y9, allOk, yu, y8, newRow, yM, List.isEmpty, Bool.not_false, Bool.not_true, decide_eq_true_eq, zM, zP, zO, zz, zx, yc, zi, Option.map_some, Option.map_none, Option.isNone, Option.isSome, Option.getD_none, Option.getD_some, yP, zN, zn, Int.reduceToNat, Int.reduceLE, Int.reduceLT, Int.reduceBNe, Int.reduceBEq, tys, cks]
         rfl
       · simp only [zd, yF, yD, z0, z5, Nat.reduceLT, Nat.reduceEqDiff, decide_true, decide_false, cond_true, cond_false]
         rfl
       · rfl
       first
       | (apply y6
          · simp only [za, z0, Nat.reduceLT, decide_true, cond_true, ins]
            rfl
          · simp only [za, z0, Nat.reduceLT, decide_true, cond_true, ins]
            rfl)
       | (apply yt
          · simp only [za, z0, Nat.reduceLT, decide_true, cond_true, ins]
            rfl))
    | ((first | apply zZ | apply y5)
       · rfl
       · simp only [za, z0, Nat.reduceLT, decide_true, cond_true, ins]
         rfl)
    | (apply zY
       · simp only [z6, get, z5, Nat.reduceEqDiff, decide_true, decide_false, cond_true, cond_false])
    | (apply zA
       · simp only [z6, get, z5, Nat.reduceEqDiff, decide_true, decide_false, cond_true, cond_false])
    | (apply yq
       · kernel_rfl
       · kernel_rfl)
    | (simp only [bW, if_true, Nat.reduceEqDiff, if_false])
  refine w_loop (st1 := ⟨197, [(1, .sl nf (fs.map xi) sf none), (2, .lref 0 0 3 0), (7, I (0 : Nat))], [(0, ⟨[yW p], 3, false⟩)], 1, 0⟩) lk29_12 (by kernel_rfl) (L29_12 p fs nf sf _ _ hnf hsf hl h7 (fun st h => by simp only [bW, if_true, Nat.reduceEqDiff, if_false]; exact hret 31 st h) fs 0 rfl (Nat.zero_le _) (fun h12 => ?_) (fun h12 => ?_))
  rotate_left
  · clear hret hF
    unfold checkFF
    rw [if_pos hok, if_pos ⟨hlen, h7⟩, fine_iff hok hlen, h12]
    simp
  simp only [bW, if_true, Nat.reduceEqDiff, if_false]
  repeat' first
    | (intro hb; first | cases hb | skip)
    | ((first | apply zB | apply y7)
       · rfl
       · simp (disch := assumption) only [yx, z6, get, z5, z0, Nat.reduceEqDiff, decide_true, decide_false, cond_true, cond_false, yk, zr, zI, yg, zF, Bool.and_true, Bool.true_and, Bool.and_self, Bool.and_false, Bool.false_and, Bool.or_false, Bool.or_true, Bool.false_or, Bool.true_or, Bool.not_true, Bool.not_false, if_true, ye, List.length_cons, List.length_nil, yy, yb, z7, zu, zt, zl, List.getElem?_cons_zero, List.getElem?_cons_succ, Nat.reduceAdd, Nat.zero_add, Nat.add_zero, Nat.one_ne_zero, zT, zs, zp, yC, zG, bP, Ty.isAgg, yB, zX, zR, zm, yh, zh, zV, yj, zg, ofV, zQ, zS, Bool.false_eq_true, if_false, Nat.reduceLeDiff, Nat.reduceLT, List.take, List.drop, List.map_cons, List.map_nil, List.append_nil, List.nil_append, List.cons_append, List.set, unD, yf, snapAll, zy, yi, zJ, zj, yE, z8, zw, ym, zU, Int.toNat_natCast, Int.natCast_nonneg, Int.toNat_zero, Int.le_refl, Nat.reduceMul, Nat.zero_mul, Nat.mul_zero, yl, zc, zW, zq, zb, zf, yA, eqD, zo, zK, yp, zH, zk, Nat.le_refl, Array.toList_map, List.size_toArray, List.getElem?_toArray, Nat.sub_zero, List.length_append, Nat.mul_one, zv, yo, bO, bS, z9, ze, zC, List.replicate, zE, zD, y9, allOk, yu, y8, newRow, yM, List.isEmpty, Bool.not_false, Bool.not_true, decide_eq_true_eq, zM, zP, zO, zz, zx, yc, zi, Option.map_some, Option.map_none, Option.isNone, Option.isSome, Option.getD_none, Option.getD_some, yP, zN, zn, Int.reduceToNat, Int.reduceLE, Int.reduceLT, Int.reduceBNe, Int.reduceBEq, tys, cks]
         rfl
       · simp only [zd, yF, yD, z0, z5, Nat.reduceLT, Nat.reduceEqDiff, decide_true, decide_false, cond_true, cond_false]
         rfl
       · rfl
       first
       | (apply y6
          · simp only [za, z0, Nat.reduceLT, decide_true, cond_true, ins]
            rfl
          · simp only [za, z0, Nat.reduceLT, decide_true, cond_true, ins]
            rfl)
       | (apply yt
          · simp only [za, z0, Nat.reduceLT, decide_true, cond_true, ins]
            rfl))
    | ((first | apply zZ | apply y5)
       · rfl
       · simp only [za, z0, Nat.reduceLT, decide_true, cond_true, ins]
         rfl)
    | (apply zY
       · simp only [z6, get, z5, Nat.reduceEqDiff, decide_true, decide_false, cond_true, cond_false])
    | (apply zA
       · simp only [z6, get, z5, Nat.reduceEqDiff, decide_true, decide_false, cond_true, cond_false])
    | (apply yq
       · kernel_rfl
       · kernel_rfl)
    | (simp only [bW, if_true, Nat.reduceEqDiff, if_false])
  refine w_loop (st1 := ⟨197, [(1, .sl nf (fs.map xi) sf none), (2, .lref 0 0 3 0), (9, I (0 : Nat))], [(0, ⟨[yW p], 3, false⟩)], 1, 0⟩) lk29_20 (by kernel_rfl) (L29_20 p fs nf sf _ _ hnf hsf hl hwf hok hlen h7 (fun st h => by simp only [bW, if_true, Nat.reduceEqDiff, if_false]; exact hret 31 st h) p.marks 0 rfl (Nat.zero_le _) (fun h20 => ?_) (fun h20 => ?_))
  rotate_left
  · clear hret hF
    unfold checkFF
    rw [if_pos hok, if_pos ⟨hlen, h7⟩, fine_iff hok hlen, h20]
    simp
  simp only [bW, if_true, Nat.reduceEqDiff, if_false]
  repeat' first
    | (intro hb; first | cases hb | skip)
    | ((first | apply zB | apply y7)
       · rfl
       · simp (disch := assumption) only [yx, z6, get, z5, z0, Nat.reduceEqDiff, decide_true, decide_false, cond_true, cond_false, yk, zr, zI, yg, zF, Bool.and_true, Bool.true_and, Bool.and_self, Bool.and_false, Bool.false_and, Bool.or_false, Bool.or_true, Bool.false_or, Bool.true_or, Bool.not_true, Bool.not_false, if_true, ye, List.length_cons, List.length_nil, yy, yb, z7, zu, zt, zl, List.getElem?_cons_zero, List.getElem?_cons_succ, Nat.reduceAdd, Nat.zero_add, Nat.add_zero, Nat.one_ne_zero, zT, zs, zp, yC, zG, bP, Ty.isAgg, yB, zX, zR, zm, yh, zh, zV, yj, zg, ofV, zQ, zS, Bool.false_eq_true, if_false, Nat.reduceLeDiff, Nat.reduceLT, List.take, List.drop, List.map_cons, List.map_nil, List.append_nil, List.nil_append, List.cons_append, List.set, unD, yf, snapAll, zy, yi, zJ, zj, yE, z8, zw, ym, zU, Int.toNat_natCast, Int.natCast_nonneg, Int.toNat_zero, Int.le_refl, Nat.reduceMul, Nat.zero_mul, Nat.mul_zero, yl, zc, zW, zq, zb, zf, yA, eqD, zo, zK, yp, zH, zk, Nat.le_refl, Array.toList_map, List.size_toArray, List.getElem?_toArray, Nat.sub_zero, List.length_append, Nat.mul_one, zv, yo, bO, bS, z9, ze, zC, List.replicate, zE, zD, y9, allOk, yu, y8, newRow, yM, List.isEmpty, Bool.not_false, Bool.not_true, decide_eq_true_eq, zM, zP, zO, zz, zx, yc, zi, Option.map_some, Option.map_none, Option.isNone, Option.isSome, Option.getD_none, Option.getD_some, yP, zN, zn, Int.reduceToNat, Int.reduceLE, Int.reduceLT, Int.reduceBNe, Int.reduceBEq, tys, cks]
         rfl
       · simp only [zd, yF, yD, z0, z5, Nat.reduceLT, Nat.reduceEqDiff, decide_true, decide_false, cond_true, cond_false]
         rfl
       · rfl
       first
       | (apply y6
          · simp only [za, z0, Nat.reduceLT, decide_true, cond_true, ins]
            rfl
          · simp only [za, z0, Nat.reduceLT, decide_true, cond_true, ins]
            rfl)
       | (apply yt
          · simp only [za, z0, Nat.reduceLT, decide_true, cond_true, ins]
            rfl))
    | ((first | apply zZ | apply y5)
       · rfl
       · simp only [za, z0, Nat.reduceLT, decide_true, cond_true, ins]
         rfl)
    | (apply zY
       · simp only [z6, get, z5, Nat.reduceEqDiff, decide_true, decide_false, cond_true, cond_false])
    | (apply zA
       · simp only [z6, get, z5, Nat.reduceEqDiff, decide_true, decide_false, cond_true, cond_false])
    | (apply yq
       · kernel_rfl
       · kernel_rfl)
    | (simp only [bW, if_true, Nat.reduceEqDiff, if_false])
  refine w_loop (st1 := ⟨197, [(1, .sl nf (fs.map xi) sf none), (2, .lref 0 0 3 0), (11, I (0 : Nat))], [(0, ⟨[yW p], 3, false⟩)], 1, 0⟩) lk29_26 (by kernel_rfl) (L29_26 p fs nf sf _ _ hnf hsf hl hwf hok hlen h7 (fun st h => by simp only [bW, if_true, Nat.reduceEqDiff, if_false]; exact hret 31 st h) p.joins 0 rfl (Nat.zero_le _) (fun h26 => ?_) (fun h26 => ?_))
  rotate_left
  · clear hret hF
    unfold checkFF
    rw [if_pos hok, if_pos ⟨hlen, h7⟩, fine_iff hok hlen, h26]
    simp
  rw [show checkFF p fs = 0 by unfold checkFF; rw [if_pos hok, if_pos ⟨hlen, h7⟩, fine_iff hok hlen, h12, h20, h26]; rfl]
  simp only [bW, if_true, Nat.reduceEqDiff, if_false]
  repeat' first
    | (intro hb; first | cases hb | skip)
    | ((first | apply zB | apply y7)
       · rfl
       · simp (disch := assumption) only [yx, z6, get, z5, z0, Nat.reduceEqDiff, decide_true, decide_false, cond_true, cond_false, yk, zr, zI, yg, zF, Bool.and_true, Bool.true_and, Bool.and_self, Bool.and_false, Bool.false_and, Bool.or_false, Bool.or_true, Bool.false_or, Bool.true_or, Bool.not_true, Bool.not_false, if_true, ye, List.length_cons, List.length_nil, yy, yb, z7, zu, zt, zl, List.getElem?_cons_zero, List.getElem?_cons_succ, Nat.reduceAdd, Nat.zero_add, Nat.add_zero, Nat.one_ne_zero, zT, zs, zp, yC, zG, bP, Ty.isAgg, yB, zX, zR, zm, yh, zh, zV, yj, zg, ofV, zQ, zS, Bool.false_eq_true, if_false, Nat.reduceLeDiff, Nat.reduceLT, List.take, List.drop, List.map_cons, List.map_nil, List.append_nil, List.nil_append, List.cons_append, List.set, unD, yf, snapAll, zy, yi, zJ, zj, yE, z8, zw, ym, zU, Int.toNat_natCast, Int.natCast_nonneg, Int.toNat_zero, Int.le_refl, Nat.reduceMul, Nat.zero_mul, Nat.mul_zero, yl, zc, zW, zq, zb, zf, yA, eqD, zo, zK, yp, zH, zk, Nat.le_refl, Array.toList_map, List.size_toArray, List.getElem?_toArray, Nat.sub_zero, List.length_append, Nat.mul_one, zv, yo, bO, bS, z9, ze, zC, List.replicate, zE, zD, y9, allOk, yu, y8, newRow, yM, List.isEmpty, Bool.not_false, Bool.not_true, decide_eq_true_eq, zM, zP, zO, zz, zx, yc, zi, Option.map_some, Option.map_none, Option.isNone, Option.isSome, Option.getD_none, Option.getD_some, yP, zN, zn, Int.reduceToNat, Int.reduceLE, Int.reduceLT, Int.reduceBNe, Int.reduceBEq, tys, cks]
         rfl
       · simp only [zd, yF, yD, z0, z5, Nat.reduceLT, Nat.reduceEqDiff, decide_true, decide_false, cond_true, cond_false]
         rfl
       · rfl
       first
       | (apply y6
          · simp only [za, z0, Nat.reduceLT, decide_true, cond_true, ins]
            rfl
          · simp only [za, z0, Nat.reduceLT, decide_true, cond_true, ins]
            rfl)
       | (apply yt
          · simp only [za, z0, Nat.reduceLT, decide_true, cond_true, ins]
            rfl))
    | ((first | apply zZ | apply y5)
       · rfl
       · simp only [za, z0, Nat.reduceLT, decide_true, cond_true, ins]
         rfl)
    | (apply zY
       · simp only [z6, get, z5, Nat.reduceEqDiff, decide_true, decide_false, cond_true, cond_false])
    | (apply zA
       · simp only [z6, get, z5, Nat.reduceEqDiff, decide_true, decide_false, cond_true, cond_false])
    | (apply yq
       · kernel_rfl
       · kernel_rfl)
    | (simp only [bW, if_true, Nat.reduceEqDiff, if_false])
  exact hret 0 _ rfl

end Go.VS
namespace Go.VS
open Go Go.Proofs
set_option maxHeartbeats 0
set_option linter.unusedSimpArgs false

theorem t6 (p : Paper) (fs : List F4) (nf : Bool) (sf : Nat) (a b : Ratio) (hwf : p.wf) (hnf : nf = true → fs = []) (hsf : nf = false → sf = 4) (hl : fs.length ≤ 9223372036854775807) : (lim cfg).pure 6 [yW p, .sl nf (fs.map xi) sf none, encR a, encR b] = some (B true) := by
  have h15 := t15 p hwf
  have h28 := t28 p hwf
  have h18 := t18 p fs nf sf hwf hnf hsf hl
  have h29 := t29 p fs nf sf hwf hnf hsf hl
  have h26 := t26 a b
  have h27 := t27 a b
  simp only [encR] at h26 h27
  cases hr : (ratioOK a && ratioOK b)
  all_goals
    rw [hr] at h26 h27
    simp only [Bool.false_eq_true, if_false, if_true] at h26 h27
    refine yR (yG 6) cfn6 rfl (n := 51) rfl ?_
    simp only [bW, if_true, Nat.reduceEqDiff, if_false, yJ]
    repeat' first
      | (intro hb; first | cases hb | skip)
      | ((first | apply zB | apply y7)
         · rfl
         · simp (disch := assumption) only [yx, z6, get, z5, z0, Nat.reduceEqDiff, decide_true, decide_false, cond_true, cond_false, yk, zr, zI, yg, zF, Bool.and_true, Bool.true_and, Bool.and_self, Bool.and_false, Bool.false_and, Bool.or_false, Bool.or_true, Bool.false_or, Bool.true_or, Bool.not_true, Bool.not_false, if_true, ye, List.length_cons, List.length_nil, yy, yb, z7, zu, zt, zl, List.getElem?_cons_zero, List.getElem?_cons_succ, Nat.reduceAdd, Nat.zero_add, Nat.add_zero, Nat.one_ne_zero, zT, zs, zp, yC, zG, bP, Ty.isAgg, yB, zX, zR, zm, yh, zh, zV, yj, zg, ofV, zQ, zS, Bool.false_eq_true, if_false, Nat.reduceLeDiff, Nat.reduceLT, List.take, List.drop, List.map_cons, List.map_nil, List.append_nil, List.nil_append, List.cons_append, List.set, unD, yf, snapAll, zy, yi, zJ, zj, yE, z8, zw, ym, zU, Int.toNat_natCast, Int.natCast_nonneg, Int.toNat_zero, Int.le_refl, Nat.reduceMul, Nat.zero_mul, Nat.mul_zero, yl, zc, zW, zq, zb, zf, yA, eqD, zo, zK, yp, zH, zk, Nat.le_refl, Array.toList_map, List.size_toArray, List.getElem?_toArray, Nat.sub_zero, List.length_append, Nat.mul_one, zv, yo, bO, bS, z9, ze, zC, List.replicate, zE, zD, y9, allOk, yu, y8, newRow, yM, List.isEmpty, Bool.not_false, Bool.not_true, decide_eq_true_eq, zM, zP, zO, zz, zx, yc, zi, Option.map_some, Option.map_none, Option.isNone, Option.isSome, Option.getD_none, Option.getD_some, yP, zN, zn, Int.reduceToNat, Int.reduceLE, Int.reduceLT, Int.reduceBNe, Int.reduceBEq, tys, cks, t14, h15, h28, h18, h29, h26, h27, encR, beq_self_eq_true]
           rfl
         · simp only [zd, yF, yD, z0, z5, Nat.reduceLT, Nat.reduceEqDiff, decide_true, decide_false, cond_true, cond_false]
           rfl
         · rfl
         first
         | (apply y6
            · simp only [za, z0, Nat.reduceLT, decide_true, cond_true, ins]
              rfl
            · simp only [za, z0, Nat.reduceLT, decide_true, cond_true, ins]
              rfl)
         | (apply yt
            · simp only [za, z0, Nat.reduceLT, decide_true, cond_true, ins]
              rfl))
      | ((first | apply zZ | apply y5)
         · rfl
         · simp only [za, z0, Nat.reduceLT, decide_true, cond_true, ins]
           rfl)
      | (apply zY
         · simp only [z6, get, z5, Nat.reduceEqDiff, decide_true, decide_false, cond_true, cond_false])
      | (apply zA
         · simp only [z6, get, z5, Nat.reduceEqDiff, decide_true, decide_false, cond_true, cond_false])
      | (apply yq
         · kernel_rfl
         · kernel_rfl)
      | (simp only [bW, if_true, Nat.reduceEqDiff, if_false])
    all_goals try simp only [xf, finF, yI, yX, zl, get, zG, z5, Nat.reduceEqDiff, decide_true, decide_false, cond_true, cond_false, yV, snapAll, zy, List.getElem?_cons_zero, List.getElem?_cons_succ, bP, Ty.isAgg, if_true, if_false, Bool.false_eq_true, Nat.zero_add, Nat.add_zero, List.length_cons, List.length_nil, Nat.reduceAdd, Nat.reduceLeDiff, List.take, List.drop, Bool.true_and, Bool.and_self, Nat.le_refl, List.map_cons, List.length_map, List.append_nil, List.nil_append, List.cons_append, Nat.sub_zero, bO, bS, tys, Tryd.f6]
    all_goals first | done | rfl | (simp_all []; done) | trace_state


end Go.VS
