/- Nothing of a statement is proved in this text alone: it is part 4 of the proof's own tools, an evaluator of the code over deep values, its soundness, and what it makes of this seat's functions. Conditions: none beyond the statement's own. -/
import Derived.Test.YtbndhgnkgoggmaaDoorVsCardC3
set_option linter.unusedSimpArgs false
set_option linter.unusedVariables false
namespace Go.VS
open Go Go.Proofs
set_option maxHeartbeats 0
set_option linter.unusedSimpArgs false

noncomputable def lp81_5 : Code := x8 [1, 1, 0, 1, 0, 0] (yN Tryd.f81)
theorem lk81_5 : cfg.keep 81 (yT lp81_5) = [1, 2, 4, 13, 14] := by kernel_rfl

def endF0 (p : Paper) (s : Nat) : F4 := ⟨(loF p s 0).n, (loF p s 0).d, (loF p s 1).n, (loF p s 1).d⟩
theorem L81_5_0 {F : Exit → St → Option D} (p : Paper) (k : List Kt) (x : D) (hwf : p.wf) (hok : xc p = true) : ∀ (m i : Nat) (l : List F4), (i : Int) + m = p.sheets → l.length + m ≤ 1000 →
    (∀ l', l' = l ++ (List.range' i m).map (endF0 p) → yZ cfg (lim cfg) 81 F k (.exit 0) ⟨33, [(15, B false), (1, I 0), (2, .lref 0 0 3 0), (4, gD 1 4 (l')), (13, I p.sheets), (14, I (i + m : Nat))], (0, ⟨[yW p], 3, false⟩) :: gO 1 4 xi (l'), gN 1 (l'), 0⟩ = some x) →
    EvL cfg (lim cfg) 81 F lp81_5 k ⟨33, [(1, I 0), (2, .lref 0 0 3 0), (4, gD 1 4 (l)), (13, I p.sheets), (14, I (i : Nat))], (0, ⟨[yW p], 3, false⟩) :: gO 1 4 xi (l), gN 1 (l), 0⟩ = some x := by
  intro m
  obtain ⟨o1, o2, _⟩ := paperOK_def hok
  induction m with
  | zero =>
    intro i l hi he h
    have hi' : ((i : Int) < p.sheets) = False := by simp; omega
    refine yw ?_
    try dsimp only [lp81_5, x8, yN, Tryd.f81]
    simp only [bW, if_true, Nat.reduceEqDiff, if_false]
    repeat' first
      | (intro hb; first | cases hb | skip)
      | ((first | apply zB | apply y7)
         · rfl
         · simp (disch := assumption) only [yx, z6, get, z5, z0, Nat.reduceEqDiff, decide_true, decide_false, cond_true, cond_false, yk, zr, zI, yg, zF, Bool.and_true, Bool.true_and, Bool.and_self, Bool.and_false, Bool.false_and, Bool.or_false, Bool.or_true, Bool.false_or, Bool.true_or, Bool.not_true, Bool.not_false, if_true, ye, List.length_cons, List.length_nil, yy, yb, z7, zu, zt, zl, List.getElem?_cons_zero, List.getElem?_cons_succ, Nat.reduceAdd, Nat.zero_add, Nat.add_zero, Nat.one_ne_zero, zT, zs, zp, yC, zG, bP, Ty.isAgg, yB, zX, zR, zm, yh, zh, zV, yj, zg, ofV, zQ, zS, Bool.false_eq_true, if_false, Nat.reduceLeDiff, Nat.reduceLT, List.take, List.drop, List.map_cons, List.map_nil, List.append_nil, List.nil_append, List.cons_append, List.set, unD, yf, snapAll, zy, yi, zJ, zj, yE, z8, zw, ym, zU, Int.toNat_natCast, Int.natCast_nonneg, Int.toNat_zero, Int.le_refl, Nat.reduceMul, Nat.zero_mul, Nat.mul_zero, yl, zc, zW, zq, zb, zf, yA, eqD, zo, zK, yp, zH, zk, Nat.le_refl, Array.toList_map, List.size_toArray, List.getElem?_toArray, Nat.sub_zero, List.length_append, Nat.mul_one, zv, yo, bO, bS, z9, ze, zC, List.replicate, zE, zD, y9, allOk, yu, y8, newRow, yM, List.isEmpty, Bool.not_false, Bool.not_true, decide_eq_true_eq, zM, zP, zO, zz, zx, yc, zi, Option.map_some, Option.map_none, Option.isNone, Option.isSome, Option.getD_none, Option.getD_some, yP, zN, zn, Int.reduceToNat, Int.reduceLE, Int.reduceLT, Int.reduceBNe, Int.reduceBEq, tys, cks, hi', decide_false]
           rfl
         · simp only [zd, yF, yD, z0, z5, Nat.reduceLT, Nat.reduceEqDiff, decide_true, decide_false, cond_true, cond_false]
           rfl
         · rfl
         first
         | (apply y6
            · simp only [za, z0, Nat.reduceLT, decide_true, cond_true, ins]
              rfl
            · simp only [za, z0, Nat.reduceLT, decide_true, cond_true, ins]
              rfl)
         | (apply yt
            · simp only [za, z0, Nat.reduceLT, decide_true, cond_true, ins]
              rfl))
      | ((first | apply zZ | apply y5)
         · rfl
         · simp only [za, z0, Nat.reduceLT, decide_true, cond_true, ins]
           rfl)
      | (apply zY
         · simp only [z6, get, z5, Nat.reduceEqDiff, decide_true, decide_false, cond_true, cond_false])
      | (apply zA
         · simp only [z6, get, z5, Nat.reduceEqDiff, decide_true, decide_false, cond_true, cond_false])
      | (apply yq
         · kernel_rfl
         · kernel_rfl)
      | (simp only [bW, if_true, Nat.reduceEqDiff, if_false])
    have := h l (by simp)
    rw [Nat.add_zero] at this
    exact this
  | succ m ih =>
    intro i l hi he h
    have hlt' : ((i : Int) < p.sheets) = True := by simp; omega
    have hw3 : IntKind.i64.wrap ((i : Int) + 1) = ((i + 1 : Nat) : Int) := by rw [wrap_i64 (by omega) (by omega)]; omega
    have hs : yY p i = true := by simp [yY]; omega
    have h73a := t73 p i 0 hwf hok hs
    have h73b := t73 p i 1 hwf hok hs
    rw [show i + (m + 1) = i + 1 + m by omega] at h
    cases l with
    | nil =>
      simp only [gD, gO, gN]
      refine yw ?_
      try dsimp only [lp81_5, x8, yN, Tryd.f81]
      simp only [bW, if_true, Nat.reduceEqDiff, if_false]
      repeat' first
        | (intro hb; first | cases hb | skip)
        | ((first | apply zB | apply y7)
           · rfl
           · simp (disch := assumption) only [yx, z6, get, z5, z0, Nat.reduceEqDiff, decide_true, decide_false, cond_true, cond_false, yk, zr, zI, yg, zF, Bool.and_true, Bool.true_and, Bool.and_self, Bool.and_false, Bool.false_and, Bool.or_false, Bool.or_true, Bool.false_or, Bool.true_or, Bool.not_true, Bool.not_false, if_true, ye, List.length_cons, List.length_nil, yy, yb, z7, zu, zt, zl, List.getElem?_cons_zero, List.getElem?_cons_succ, Nat.reduceAdd, Nat.zero_add, Nat.add_zero, Nat.one_ne_zero, zT, zs, zp, yC, zG, bP, Ty.isAgg, yB, zX, zR, zm, yh, zh, zV, yj, zg, ofV, zQ, zS, Bool.false_eq_true, if_false, Nat.reduceLeDiff, Nat.reduceLT, List.take, List.drop, List.map_cons, List.map_nil, List.append_nil, List.nil_append, List.cons_append, List.set, unD, yf, snapAll, zy, yi, zJ, zj, yE, z8, zw, ym, zU, Int.toNat_natCast, Int.natCast_nonneg, Int.toNat_zero, Int.le_refl, Nat.reduceMul, Nat.zero_mul, Nat.mul_zero, yl, zc, zW, zq, zb, zf, yA, eqD, zo, zK, yp, zH, zk, Nat.le_refl, Array.toList_map, List.size_toArray, List.getElem?_toArray, Nat.sub_zero, List.length_append, Nat.mul_one, zv, yo, bO, bS, z9, ze, zC, List.replicate, zE, zD, y9, allOk, yu, y8, newRow, yM, List.isEmpty, Bool.not_false, Bool.not_true, decide_eq_true_eq, zM, zP, zO, zz, zx, yc, zi, Option.map_some, Option.map_none, Option.isNone, Option.isSome, Option.getD_none, Option.getD_some, yP, zN, zn, Int.reduceToNat, Int.reduceLE, Int.reduceLT, Int.reduceBNe, Int.reduceBEq, tys, cks, hlt', hw3, h73a, h73b, Int.reduceToNat, Int.reduceLE, show (0 : Nat) < 2 from by decide, show (1 : Nat) < 2 from by decide, okF.allOk]
             rfl
           · simp only [zd, yF, yD, z0, z5, Nat.reduceLT, Nat.reduceEqDiff, decide_true, decide_false, cond_true, cond_false]
             rfl
           · rfl
           first
           | (apply y6
              · simp only [za, z0, Nat.reduceLT, decide_true, cond_true, ins]
                rfl
              · simp only [za, z0, Nat.reduceLT, decide_true, cond_true, ins]
                rfl)
           | (apply yt
              · simp only [za, z0, Nat.reduceLT, decide_true, cond_true, ins]
                rfl))
        | ((first | apply zZ | apply y5)
           · rfl
           · simp only [za, z0, Nat.reduceLT, decide_true, cond_true, ins]
             rfl)
        | (apply zY
           · simp only [z6, get, z5, Nat.reduceEqDiff, decide_true, decide_false, cond_true, cond_false])
        | (apply zA
           · simp only [z6, get, z5, Nat.reduceEqDiff, decide_true, decide_false, cond_true, cond_false])
        | (apply yq
           · kernel_rfl
           · kernel_rfl)
        | (simp only [bW, if_true, Nat.reduceEqDiff, if_false])
      refine x7 (st1 := ⟨33, [(1, I 0), (2, .lref 0 0 3 0), (4, gD 1 4 ([endF0 p i])), (13, I p.sheets), (14, I (i + 1 : Nat))], (0, ⟨[yW p], 3, false⟩) :: gO 1 4 xi ([endF0 p i]), gN 1 ([endF0 p i]), 0⟩) lk81_5 (by
        simp only [gc, gc0, gcWith, deepen, deepT, deepTI, deepO, deepOI, deepA, deepAI, deepEl, deepElI, catI, rootsT, keepT, rootsO, idsL, yS, yO, memN, get, zG, fromPin, renT, renN, placeOf, pinO, renO, renOb, zy, List.map_cons, List.map_nil, List.map_append, List.nil_append, List.cons_append, List.append_nil, z5, z0, Nat.reduceEqDiff, Nat.reduceLT, Nat.not_lt_zero, decide_true, decide_false, cond_true, cond_false, List.length_cons, List.length_nil, Nat.reduceAdd, Nat.zero_add, Nat.add_zero, Nat.lt_irrefl, bI, bD, bI2, okF.renL, okF.idsL, okF.idsL_app, gD, gO, gN, endF0, xi, yW, List.length_append, List.length_map]) (ih (i + 1) ([endF0 p i]) (by omega) (by simp at he ⊢; omega) (fun l' hl' => h l' (by rw [hl', List.range'_succ]; simp)))
    | cons e r =>
      simp only [List.length_cons] at he
      have hle : (r.length + 1 + 1 ≤ r.length + 1) = False := by simp
      have hb1 : ((r.length + 1 + 1) * 32 ≤ big) = True := by simp [big]; omega
      have hb2 : (r.length + 1 + 1 ≤ big) = True := by simp [big]; omega
      have hao : allOk 4 (xi e :: List.map xi r) = true := okF.allOk (e :: r)
      simp only [gD, gO, gN, List.map_cons]
      refine yw ?_
      try dsimp only [lp81_5, x8, yN, Tryd.f81]
      simp only [bW, if_true, Nat.reduceEqDiff, if_false]
      repeat' first
        | (intro hb; first | cases hb | skip)
        | ((first | apply zB | apply y7)
           · rfl
           · simp (disch := assumption) only [yx, z6, get, z5, z0, Nat.reduceEqDiff, decide_true, decide_false, cond_true, cond_false, yk, zr, zI, yg, zF, Bool.and_true, Bool.true_and, Bool.and_self, Bool.and_false, Bool.false_and, Bool.or_false, Bool.or_true, Bool.false_or, Bool.true_or, Bool.not_true, Bool.not_false, if_true, ye, List.length_cons, List.length_nil, yy, yb, z7, zu, zt, zl, List.getElem?_cons_zero, List.getElem?_cons_succ, Nat.reduceAdd, Nat.zero_add, Nat.add_zero, Nat.one_ne_zero, zT, zs, zp, yC, zG, bP, Ty.isAgg, yB, zX, zR, zm, yh, zh, zV, yj, zg, ofV, zQ, zS, Bool.false_eq_true, if_false, Nat.reduceLeDiff, Nat.reduceLT, List.take, List.drop, List.map_cons, List.map_nil, List.append_nil, List.nil_append, List.cons_append, List.set, unD, yf, snapAll, zy, yi, zJ, zj, yE, z8, zw, ym, zU, Int.toNat_natCast, Int.natCast_nonneg, Int.toNat_zero, Int.le_refl, Nat.reduceMul, Nat.zero_mul, Nat.mul_zero, yl, zc, zW, zq, zb, zf, yA, eqD, zo, zK, yp, zH, zk, Nat.le_refl, Array.toList_map, List.size_toArray, List.getElem?_toArray, Nat.sub_zero, List.length_append, Nat.mul_one, zv, yo, bO, bS, z9, ze, zC, List.replicate, zE, zD, y9, allOk, yu, y8, newRow, yM, List.isEmpty, Bool.not_false, Bool.not_true, decide_eq_true_eq, zM, zP, zO, zz, zx, yc, zi, Option.map_some, Option.map_none, Option.isNone, Option.isSome, Option.getD_none, Option.getD_some, yP, zN, zn, Int.reduceToNat, Int.reduceLE, Int.reduceLT, Int.reduceBNe, Int.reduceBEq, tys, cks, hlt', hw3, h73a, h73b, Int.reduceToNat, Int.reduceLE, show (0 : Nat) < 2 from by decide, show (1 : Nat) < 2 from by decide, okF.allOk, hao, hle, hb1, hb2, List.length_map, zN]
             rfl
           · simp only [zd, yF, yD, z0, z5, Nat.reduceLT, Nat.reduceEqDiff, decide_true, decide_false, cond_true, cond_false]
             rfl
           · rfl
           first
           | (apply y6
              · simp only [za, z0, Nat.reduceLT, decide_true, cond_true, ins]
                rfl
              · simp only [za, z0, Nat.reduceLT, decide_true, cond_true, ins]
                rfl)
           | (apply yt
              · simp only [za, z0, Nat.reduceLT, decide_true, cond_true, ins]
                rfl))
        | ((first | apply zZ | apply y5)
           · rfl
           · simp only [za, z0, Nat.reduceLT, decide_true, cond_true, ins]
             rfl)
        | (apply zY
           · simp only [z6, get, z5, Nat.reduceEqDiff, decide_true, decide_false, cond_true, cond_false])
        | (apply zA
           · simp only [z6, get, z5, Nat.reduceEqDiff, decide_true, decide_false, cond_true, cond_false])
        | (apply yq
           · kernel_rfl
           · kernel_rfl)
        | (simp only [bW, if_true, Nat.reduceEqDiff, if_false])
      refine x7 (st1 := ⟨33, [(1, I 0), (2, .lref 0 0 3 0), (4, gD 1 4 ((e :: r) ++ [endF0 p i])), (13, I p.sheets), (14, I (i + 1 : Nat))], (0, ⟨[yW p], 3, false⟩) :: gO 1 4 xi ((e :: r) ++ [endF0 p i]), gN 1 ((e :: r) ++ [endF0 p i]), 0⟩) lk81_5 (by
        simp only [gc, gc0, gcWith, deepen, deepT, deepTI, deepO, deepOI, deepA, deepAI, deepEl, deepElI, catI, rootsT, keepT, rootsO, idsL, yS, yO, memN, get, zG, fromPin, renT, renN, placeOf, pinO, renO, renOb, zy, List.map_cons, List.map_nil, List.map_append, List.nil_append, List.cons_append, List.append_nil, z5, z0, Nat.reduceEqDiff, Nat.reduceLT, Nat.not_lt_zero, decide_true, decide_false, cond_true, cond_false, List.length_cons, List.length_nil, Nat.reduceAdd, Nat.zero_add, Nat.add_zero, Nat.lt_irrefl, bI, bD, bI2, okF.renL, okF.idsL, okF.idsL_app, gD, gO, gN, endF0, xi, yW, List.length_append, List.length_map]) (ih (i + 1) ((e :: r) ++ [endF0 p i]) (by omega) (by simp at he ⊢; omega) (fun l' hl' => h l' (by rw [hl', List.range'_succ]; simp)))
def endsF0 (p : Paper) : List F4 := (List.range' 0 p.sheets.toNat).map (endF0 p)
theorem t81_0 (p : Paper) (hwf : p.wf) : (lim cfg).pure 81 [yW p, I 0] = some (if knownF p 0 [] = 0 then .tup [.sl false ((endsF0 p).map xi) 4 none, I 0] else .tup [.sl true [] 0 none, I (knownF p 0 [])]) := by
  have h71' := t71 p 0 true [] hwf 0 (by simp) (by simp) (by simp)
  simp only [List.map_nil] at h71'
  by_cases hk : knownF p 0 [] = 0
  · rw [if_pos hk]
    rw [hk] at h71'
    obtain ⟨hok, hp, hs, hax⟩ := known_zero.1 hk
    obtain ⟨o1, o2, _⟩ := paperOK_def hok
    obtain ⟨n, hn⟩ := Int.eq_ofNat_of_zero_le (show 0 ≤ p.sheets by omega)
    refine yR (yG 81) cfn81 rfl (n := 33) rfl ?_
    generalize hF : xf cfg Tryd.f81 = F
    simp only [bW, if_true, Nat.reduceEqDiff, if_false, yJ]
    repeat' first
      | (intro hb; first | cases hb | skip)
      | ((first | apply zB | apply y7)
         · rfl
         · simp (disch := assumption) only [yx, z6, get, z5, z0, Nat.reduceEqDiff, decide_true, decide_false, cond_true, cond_false, yk, zr, zI, yg, zF, Bool.and_true, Bool.true_and, Bool.and_self, Bool.and_false, Bool.false_and, Bool.or_false, Bool.or_true, Bool.false_or, Bool.true_or, Bool.not_true, Bool.not_false, if_true, ye, List.length_cons, List.length_nil, yy, yb, z7, zu, zt, zl, List.getElem?_cons_zero, List.getElem?_cons_succ, Nat.reduceAdd, Nat.zero_add, Nat.add_zero, Nat.one_ne_zero, zT, zs, zp, yC, zG, bP, Ty.isAgg, yB, zX, zR, zm, yh, zh, zV, yj, zg, ofV, zQ, zS, Bool.false_eq_true, if_false, Nat.reduceLeDiff, Nat.reduceLT, List.take, List.drop, List.map_cons, List.map_nil, List.append_nil, List.nil_append, List.cons_append, List.set, unD, yf, snapAll, zy, yi, zJ, zj, yE, z8, zw, ym, zU, Int.toNat_natCast, Int.natCast_nonneg, Int.toNat_zero, Int.le_refl, Nat.reduceMul, Nat.zero_mul, Nat.mul_zero, yl, zc, zW, zq, zb, zf, yA, eqD, zo, zK, yp, zH, zk, Nat.le_refl, Array.toList_map, List.size_toArray, List.getElem?_toArray, Nat.sub_zero, List.length_append, Nat.mul_one, zv, yo, bO, bS, z9, ze, zC, List.replicate, zE, zD, y9, allOk, yu, y8, newRow, yM, List.isEmpty, Bool.not_false, Bool.not_true, decide_eq_true_eq, zM, zP, zO, zz, zx, yc, zi, Option.map_some, Option.map_none, Option.isNone, Option.isSome, Option.getD_none, Option.getD_some, yP, zN, zn, Int.reduceToNat, Int.reduceLE, Int.reduceLT, Int.reduceBNe, Int.reduceBEq, tys, cks, h71']
           rfl
         · simp only [zd, yF, yD, z0, z5, Nat.reduceLT, Nat.reduceEqDiff, decide_true, decide_false, cond_true, cond_false]
           rfl
         · rfl
         first
         | (apply y6
            · simp only [za, z0, Nat.reduceLT, decide_true, cond_true, ins]
              rfl
            · simp only [za, z0, Nat.reduceLT, decide_true, cond_true, ins]
              rfl)
         | (apply yt
            · simp only [za, z0, Nat.reduceLT, decide_true, cond_true, ins]
              rfl))
      | ((first | apply zZ | apply y5)
         · rfl
         · simp only [za, z0, Nat.reduceLT, decide_true, cond_true, ins]
           rfl)
      | (apply zY
         · simp only [z6, get, z5, Nat.reduceEqDiff, decide_true, decide_false, cond_true, cond_false])
      | (apply zA
         · simp only [z6, get, z5, Nat.reduceEqDiff, decide_true, decide_false, cond_true, cond_false])
      | (apply yq
         · kernel_rfl
         · kernel_rfl)
      | (simp only [bW, if_true, Nat.reduceEqDiff, if_false])
    refine w_loop (st1 := ⟨33, [(1, I 0), (2, .lref 0 0 3 0), (4, gD 1 4 ([])), (13, I p.sheets), (14, I (0 : Nat))], (0, ⟨[yW p], 3, false⟩) :: gO 1 4 xi ([]), gN 1 ([]), 0⟩) lk81_5 (by
      simp only [gc, gc0, gcWith, deepen, deepT, deepTI, deepO, deepOI, deepA, deepAI, deepEl, deepElI, catI, rootsT, keepT, rootsO, idsL, yS, yO, memN, get, zG, fromPin, renT, renN, placeOf, pinO, renO, renOb, zy, List.map_cons, List.map_nil, List.map_append, List.nil_append, List.cons_append, List.append_nil, z5, z0, Nat.reduceEqDiff, Nat.reduceLT, Nat.not_lt_zero, decide_true, decide_false, cond_true, cond_false, List.length_cons, List.length_nil, Nat.reduceAdd, Nat.zero_add, Nat.add_zero, Nat.lt_irrefl, bI, bD, bI2, gD, gO, gN]
      try rfl) (L81_5_0 p _ _ hwf hok n 0 [] (by omega) (by simp; omega) (fun l hl => ?_))
    obtain ⟨e, r, rfl⟩ : ∃ e r, l = e :: r := by
      cases l with
      | nil => 
        have := congrArg List.length hl
        simp at this; omega
      | cons e r => exact ⟨e, r, rfl⟩
    have hl' : e :: r = endsF0 p := by rw [hl]; simp [endsF0, hn]
    rw [← hl']
    simp only [gD, gO, gN, List.map_cons]
    simp only [bW, if_true, Nat.reduceEqDiff, if_false]
    repeat' first
      | (intro hb; first | cases hb | skip)
      | ((first | apply zB | apply y7)
         · rfl
         · simp (disch := assumption) only [yx, z6, get, z5, z0, Nat.reduceEqDiff, decide_true, decide_false, cond_true, cond_false, yk, zr, zI, yg, zF, Bool.and_true, Bool.true_and, Bool.and_self, Bool.and_false, Bool.false_and, Bool.or_false, Bool.or_true, Bool.false_or, Bool.true_or, Bool.not_true, Bool.not_false, if_true, ye, List.length_cons, List.length_nil, yy, yb, z7, zu, zt, zl, List.getElem?_cons_zero, List.getElem?_cons_succ, Nat.reduceAdd, Nat.zero_add, Nat.add_zero, Nat.one_ne_zero, zT, zs, zp, yC, zG, bP, Ty.isAgg, yB, zX, zR, zm, yh, zh, zV, yj, zg, ofV, zQ, zS, Bool.false_eq_true, if_false, Nat.reduceLeDiff, Nat.reduceLT, List.take, List.drop, List.map_cons, List.map_nil, List.append_nil, List.nil_append, List.cons_append, List.set, unD, yf, snapAll, zy, yi, zJ, zj, yE, z8, zw, ym, zU, Int.toNat_natCast, Int.natCast_nonneg, Int.toNat_zero, Int.le_refl, Nat.reduceMul, Nat.zero_mul, Nat.mul_zero, yl, zc, zW, zq, zb, zf, yA, eqD, zo, zK, yp, zH, zk, Nat.le_refl, Array.toList_map, List.size_toArray, List.getElem?_toArray, Nat.sub_zero, List.length_append, Nat.mul_one, zv, yo, bO, bS, z9, ze, zC, List.replicate, zE, zD, y9, allOk, yu, y8, newRow, yM, List.isEmpty, Bool.not_false, Bool.not_true, decide_eq_true_eq, zM, zP, zO, zz, zx, yc, zi, Option.map_some, Option.map_none, Option.isNone, Option.isSome, Option.getD_none, Option.getD_some, yP, zN, zn, Int.reduceToNat, Int.reduceLE, Int.reduceLT, Int.reduceBNe, Int.reduceBEq, tys, cks]
           rfl
         · simp only [zd, yF, yD, z0, z5, Nat.reduceLT, Nat.reduceEqDiff, decide_true, decide_false, cond_true, cond_false]
           rfl
         · rfl
         first
         | (apply y6
            · simp only [za, z0, Nat.reduceLT, decide_true, cond_true, ins]
              rfl
            · simp only [za, z0, Nat.reduceLT, decide_true, cond_true, ins]
              rfl)
         | (apply yt
            · simp only [za, z0, Nat.reduceLT, decide_true, cond_true, ins]
              rfl))
      | ((first | apply zZ | apply y5)
         · rfl
         · simp only [za, z0, Nat.reduceLT, decide_true, cond_true, ins]
           rfl)
      | (apply zY
         · simp only [z6, get, z5, Nat.reduceEqDiff, decide_true, decide_false, cond_true, cond_false])
      | (apply zA
         · simp only [z6, get, z5, Nat.reduceEqDiff, decide_true, decide_false, cond_true, cond_false])
      | (apply yq
         · kernel_rfl
         · kernel_rfl)
      | (simp only [bW, if_true, Nat.reduceEqDiff, if_false])
    subst hF
    simp only [xf, finF, yI, yX, zl, get, zG, z5, Nat.reduceEqDiff, decide_true, decide_false, cond_true, cond_false, yV, snapAll, zy, List.getElem?_cons_zero, List.getElem?_cons_succ, bP, Ty.isAgg, if_true, if_false, Bool.false_eq_true, Nat.zero_add, Nat.add_zero, List.length_cons, List.length_nil, Nat.reduceAdd, Nat.reduceLeDiff, List.take, List.drop, Bool.true_and, Bool.and_self, Nat.le_refl, List.map_cons, List.length_map, List.append_nil, List.nil_append, List.cons_append, Nat.sub_zero, bO, bS, tys, Tryd.f81, okF.snapAll, List.length_map, zN, okF.snap]
  · rw [if_neg hk]
    have hne : (knownF p 0 [] != 0) = true := by simp [hk]
    refine yR (yG 81) cfn81 rfl (n := 33) rfl ?_
    simp only [bW, if_true, Nat.reduceEqDiff, if_false, yJ]
    repeat' first
      | (intro hb; first | cases hb | skip)
      | ((first | apply zB | apply y7)
         · rfl
         · simp (disch := assumption) only [yx, z6, get, z5, z0, Nat.reduceEqDiff, decide_true, decide_false, cond_true, cond_false, yk, zr, zI, yg, zF, Bool.and_true, Bool.true_and, Bool.and_self, Bool.and_false, Bool.false_and, Bool.or_false, Bool.or_true, Bool.false_or, Bool.true_or, Bool.not_true, Bool.not_false, if_true, ye, List.length_cons, List.length_nil, yy, yb, z7, zu, zt, zl, List.getElem?_cons_zero, List.getElem?_cons_succ, Nat.reduceAdd, Nat.zero_add, Nat.add_zero, Nat.one_ne_zero, zT, zs, zp, yC, zG, bP, Ty.isAgg, yB, zX, zR, zm, yh, zh, zV, yj, zg, ofV, zQ, zS, Bool.false_eq_true, if_false, Nat.reduceLeDiff, Nat.reduceLT, List.take, List.drop, List.map_cons, List.map_nil, List.append_nil, List.nil_append, List.cons_append, List.set, unD, yf, snapAll, zy, yi, zJ, zj, yE, z8, zw, ym, zU, Int.toNat_natCast, Int.natCast_nonneg, Int.toNat_zero, Int.le_refl, Nat.reduceMul, Nat.zero_mul, Nat.mul_zero, yl, zc, zW, zq, zb, zf, yA, eqD, zo, zK, yp, zH, zk, Nat.le_refl, Array.toList_map, List.size_toArray, List.getElem?_toArray, Nat.sub_zero, List.length_append, Nat.mul_one, zv, yo, bO, bS, z9, ze, zC, List.replicate, zE, zD, y9, allOk, yu, y8, newRow, yM, List.isEmpty, Bool.not_false, Bool.not_true, decide_eq_true_eq, zM, zP, zO, zz, zx, yc, zi, Option.map_some, Option.map_none, Option.isNone, Option.isSome, Option.getD_none, Option.getD_some, yP, zN, zn, Int.reduceToNat, Int.reduceLE, Int.reduceLT, Int.reduceBNe, Int.reduceBEq, tys, cks, h71', hne]
           rfl
         · simp only [zd, yF, yD, z0, z5, Nat.reduceLT, Nat.reduceEqDiff, decide_true, decide_false, cond_true, cond_false]
           rfl
         · rfl
         first
         | (apply y6
            · simp only [za, z0, Nat.reduceLT, decide_true, cond_true, ins]
              rfl
            · simp only [za, z0, Nat.reduceLT, decide_true, cond_true, ins]
              rfl)
         | (apply yt
            · simp only [za, z0, Nat.reduceLT, decide_true, cond_true, ins]
              rfl))
      | ((first | apply zZ | apply y5)
         · rfl
         · simp only [za, z0, Nat.reduceLT, decide_true, cond_true, ins]
           rfl)
      | (apply zY
         · simp only [z6, get, z5, Nat.reduceEqDiff, decide_true, decide_false, cond_true, cond_false])
      | (apply zA
         · simp only [z6, get, z5, Nat.reduceEqDiff, decide_true, decide_false, cond_true, cond_false])
      | (apply yq
         · kernel_rfl
         · kernel_rfl)
      | (simp only [bW, if_true, Nat.reduceEqDiff, if_false])
    all_goals try simp only [xf, finF, yI, yX, zl, get, zG, z5, Nat.reduceEqDiff, decide_true, decide_false, cond_true, cond_false, yV, snapAll, zy, List.getElem?_cons_zero, List.getElem?_cons_succ, bP, Ty.isAgg, if_true, if_false, Bool.false_eq_true, Nat.zero_add, Nat.add_zero, List.length_cons, List.length_nil, Nat.reduceAdd, Nat.reduceLeDiff, List.take, List.drop, Bool.true_and, Bool.and_self, Nat.le_refl, List.map_cons, List.length_map, List.append_nil, List.nil_append, List.cons_append, Nat.sub_zero, bO, bS, tys, Tryd.f81]
    all_goals first | done | rfl | (simp_all []; done) | trace_state


def endF1 (p : Paper) (s : Nat) : F4 := ⟨(hiF p s 0).n, (hiF p s 0).d, (hiF p s 1).n, (hiF p s 1).d⟩
theorem L81_5_1 {F : Exit → St → Option D} (p : Paper) (k : List Kt) (x : D) (hwf : p.wf) (hok : xc p = true) : ∀ (m i : Nat) (l : List F4), (i : Int) + m = p.sheets → l.length + m ≤ 1000 →
    (∀ l', l' = l ++ (List.range' i m).map (endF1 p) → yZ cfg (lim cfg) 81 F k (.exit 0) ⟨33, [(15, B false), (1, I 1), (2, .lref 0 0 3 0), (4, gD 1 4 (l')), (13, I p.sheets), (14, I (i + m : Nat))], (0, ⟨[yW p], 3, false⟩) :: gO 1 4 xi (l'), gN 1 (l'), 0⟩ = some x) →
    EvL cfg (lim cfg) 81 F lp81_5 k ⟨33, [(1, I 1), (2, .lref 0 0 3 0), (4, gD 1 4 (l)), (13, I p.sheets), (14, I (i : Nat))], (0, ⟨[yW p], 3, false⟩) :: gO 1 4 xi (l), gN 1 (l), 0⟩ = some x := by
  intro m
  obtain ⟨o1, o2, _⟩ := paperOK_def hok
  induction m with
  | zero =>
    intro i l hi he h
    have hi' : ((i : Int) < p.sheets) = False := by simp; omega
    refine yw ?_
    try dsimp only [lp81_5, x8, yN, Tryd.f81]
    simp only [bW, if_true, Nat.reduceEqDiff, if_false]
    repeat' first
      | (intro hb; first | cases hb | skip)
      | ((first | apply zB | apply y7)
         · rfl
         · simp (disch := assumption) only [yx, z6, get, z5, z0, Nat.reduceEqDiff, decide_true, decide_false, cond_true, cond_false, yk, zr, zI, yg, zF, Bool.and_true, Bool.true_and, Bool.and_self, Bool.and_false, Bool.false_and, Bool.or_false, Bool.or_true, Bool.false_or, Bool.true_or, Bool.not_true, Bool.not_false, if_true, ye, List.length_cons, List.length_nil, yy, yb, z7, zu, zt, zl, List.getElem?_cons_zero, List.getElem?_cons_succ, Nat.reduceAdd, Nat.zero_add, Nat.add_zero, Nat.one_ne_zero, zT, zs, zp, yC, zG, bP, Ty.isAgg, yB, zX, zR, zm, yh, zh, zV, yj, zg, ofV, zQ, zS, Bool.false_eq_true, if_false, Nat.reduceLeDiff, Nat.reduceLT, List.take, List.drop, List.map_cons, List.map_nil, List.append_nil, List.nil_append, List.cons_append, List.set, unD, yf, snapAll, zy, yi, zJ, zj, yE, z8, zw, ym, zU, Int.toNat_natCast, Int.natCast_nonneg, Int.toNat_zero, Int.le_refl, Nat.reduceMul, Nat.zero_mul, Nat.mul_zero, yl, zc, zW, zq, zb, zf, yA, eqD, zo, zK, yp, zH, zk, Nat.le_refl, Array.toList_map, List.size_toArray, List.getElem?_toArray, Nat.sub_zero, List.length_append, Nat.mul_one, zv, yo, bO, bS, z9, ze, zC, List.replicate, zE, zD, y9, allOk, yu, y8, newRow, yM, List.isEmpty, Bool.not_false, Bool.not_true, decide_eq_true_eq, zM, zP, zO, zz, zx, yc, zi, Option.map_some, Option.map_none, Option.isNone, Option.isSome, Option.getD_none, Option.getD_some, yP, zN, zn, Int.reduceToNat, Int.reduceLE, Int.reduceLT, Int.reduceBNe, Int.reduceBEq, tys, cks, hi', decide_false]
           rfl
         · simp only [zd, yF, yD, z0, z5, Nat.reduceLT, Nat.reduceEqDiff, decide_true, decide_false, cond_true, cond_false]
           rfl
         · rfl
         first
         | (apply y6
            · simp only [za, z0, Nat.reduceLT, decide_true, cond_true, ins]
              rfl
            · simp only [za, z0, Nat.reduceLT, decide_true, cond_true, ins]
              rfl)
         | (apply yt
            · simp only [za, z0, Nat.reduceLT, decide_true, cond_true, ins]
              rfl))
      | ((first | apply zZ | apply y5)
         · rfl
         · simp only [za, z0, Nat.reduceLT, decide_true, cond_true, ins]
           rfl)
      | (apply zY
         · simp only [z6, get, z5, Nat.reduceEqDiff, decide_true, decide_false, cond_true, cond_false])
      | (apply zA
         · simp only [z6, get, z5, Nat.reduceEqDiff, decide_true, decide_false, cond_true, cond_false])
      | (apply yq
         · kernel_rfl
         · kernel_rfl)
      | (simp only [bW, if_true, Nat.reduceEqDiff, if_false])
    have := h l (by simp)
    rw [Nat.add_zero] at this
    exact this
  | succ m ih =>
    intro i l hi he h
    have hlt' : ((i : Int) < p.sheets) = True := by simp; omega
    have hw3 : IntKind.i64.wrap ((i : Int) + 1) = ((i + 1 : Nat) : Int) := by rw [wrap_i64 (by omega) (by omega)]; omega
    have hs : yY p i = true := by simp [yY]; omega
    have h73a := t73 p i 0 hwf hok hs
    have h73b := t73 p i 1 hwf hok hs
    rw [show i + (m + 1) = i + 1 + m by omega] at h
    cases l with
    | nil =>
      simp only [gD, gO, gN]
      refine yw ?_
      try dsimp only [lp81_5, x8, yN, Tryd.f81]
      simp only [bW, if_true, Nat.reduceEqDiff, if_false]
      repeat' first
        | (intro hb; first | cases hb | skip)
        | ((first | apply zB | apply y7)
           · rfl
           · simp (disch := assumption) only [yx, z6, get, z5, z0, Nat.reduceEqDiff, decide_true, decide_false, cond_true, cond_false, yk, zr, zI, yg, zF, Bool.and_true, Bool.true_and, Bool.and_self, Bool.and_false, Bool.false_and, Bool.or_false, Bool.or_true, Bool.false_or, Bool.true_or, Bool.not_true, Bool.not_false, if_true, ye, List.length_cons, List.length_nil, yy, yb, z7, zu, zt, zl, List.getElem?_cons_zero, List.getElem?_cons_succ, Nat.reduceAdd, Nat.zero_add, Nat.add_zero, Nat.one_ne_zero, zT, zs, zp, yC, zG, bP, Ty.isAgg, yB, zX, zR, zm, yh, zh, zV, yj, zg, ofV, zQ, zS, Bool.false_eq_true, if_false, Nat.reduceLeDiff, Nat.reduceLT, List.take, List.drop, List.map_cons, List.map_nil, List.append_nil, List.nil_append, List.cons_append, List.set, unD, yf, snapAll, zy, yi, zJ, zj, yE, z8, zw, ym, zU, Int.toNat_natCast, Int.natCast_nonneg, Int.toNat_zero, Int.le_refl, Nat.reduceMul, Nat.zero_mul, Nat.mul_zero, yl, zc, zW, zq, zb, zf, yA, eqD, zo, zK, yp, zH, zk, Nat.le_refl, Array.toList_map, List.size_toArray, List.getElem?_toArray, Nat.sub_zero, List.length_append, Nat.mul_one, zv, yo, bO, bS, z9, ze, zC, List.replicate, zE, zD, y9, allOk, yu, y8, newRow, yM, List.isEmpty, Bool.not_false, Bool.not_true, decide_eq_true_eq, zM, zP, zO, zz, zx, yc, zi, Option.map_some, Option.map_none, Option.isNone, Option.isSome, Option.getD_none, Option.getD_some, yP, zN, zn, Int.reduceToNat, Int.reduceLE, Int.reduceLT, Int.reduceBNe, Int.reduceBEq, tys, cks, hlt', hw3, h73a, h73b, Int.reduceToNat, Int.reduceLE, show (0 : Nat) < 2 from by decide, show (1 : Nat) < 2 from by decide, okF.allOk]
             rfl
           · simp only [zd, yF, yD, z0, z5, Nat.reduceLT, Nat.reduceEqDiff, decide_true, decide_false, cond_true, cond_false]
             rfl
           · rfl
           first
           | (apply y6
              · simp only [za, z0, Nat.reduceLT, decide_true, cond_true, ins]
                rfl
              · simp only [za, z0, Nat.reduceLT, decide_true, cond_true, ins]
                rfl)
           | (apply yt
              · simp only [za, z0, Nat.reduceLT, decide_true, cond_true, ins]
                rfl))
        | ((first | apply zZ | apply y5)
           · rfl
           · simp only [za, z0, Nat.reduceLT, decide_true, cond_true, ins]
             rfl)
        | (apply zY
           · simp only [z6, get, z5, Nat.reduceEqDiff, decide_true, decide_false, cond_true, cond_false])
        | (apply zA
           · simp only [z6, get, z5, Nat.reduceEqDiff, decide_true, decide_false, cond_true, cond_false])
        | (apply yq
           · kernel_rfl
           · kernel_rfl)
        | (simp only [bW, if_true, Nat.reduceEqDiff, if_false])
      refine x7 (st1 := ⟨33, [(1, I 1), (2, .lref 0 0 3 0), (4, gD 1 4 ([endF1 p i])), (13, I p.sheets), (14, I (i + 1 : Nat))], (0, ⟨[yW p], 3, false⟩) :: gO 1 4 xi ([endF1 p i]), gN 1 ([endF1 p i]), 0⟩) lk81_5 (by
        simp only [gc, gc0, gcWith, deepen, deepT, deepTI, deepO, deepOI, deepA, deepAI, deepEl, deepElI, catI, rootsT, keepT, rootsO, idsL, yS, yO, memN, get, zG, fromPin, renT, renN, placeOf, pinO, renO, renOb, zy, List.map_cons, List.map_nil, List.map_append, List.nil_append, List.cons_append, List.append_nil, z5, z0, Nat.reduceEqDiff, Nat.reduceLT, Nat.not_lt_zero, decide_true, decide_false, cond_true, cond_false, List.length_cons, List.length_nil, Nat.reduceAdd, Nat.zero_add, Nat.add_zero, Nat.lt_irrefl, bI, bD, bI2, okF.renL, okF.idsL, okF.idsL_app, gD, gO, gN, endF1, xi, yW, List.length_append, List.length_map]) (ih (i + 1) ([endF1 p i]) (by omega) (by simp at he ⊢; omega) (fun l' hl' => h l' (by rw [hl', List.range'_succ]; simp)))
    | cons e r =>
      simp only [List.length_cons] at he
      have hle : (r.length + 1 + 1 ≤ r.length + 1) = False := by simp
      have hb1 : ((r.length + 1 + 1) * 32 ≤ big) = True := by simp [big]; omega
      have hb2 : (r.length + 1 + 1 ≤ big) = True := by simp [big]; omega
      have hao : allOk 4 (xi e :: List.map xi r) = true := okF.allOk (e :: r)
      simp only [gD, gO, gN, List.map_cons]
      refine yw ?_
      try dsimp only [lp81_5, x8, yN, Tryd.f81]
      simp only [bW, if_true, Nat.reduceEqDiff, if_false]
      repeat' first
        | (intro hb; first | cases hb | skip)
        | ((first | apply zB | apply y7)
           · rfl
           · simp (disch := assumption) only [yx, z6, get, z5, z0, Nat.reduceEqDiff, decide_true, decide_false, cond_true, cond_false, yk, zr, zI, yg, zF, Bool.and_true, Bool.true_and, Bool.and_self, Bool.and_false, Bool.false_and, Bool.or_false, Bool.or_true, Bool.false_or, Bool.true_or, Bool.not_true, Bool.not_false, if_true, ye, List.length_cons, List.length_nil, yy, yb, z7, zu, zt, zl, List.getElem?_cons_zero, List.getElem?_cons_succ, Nat.reduceAdd, Nat.zero_add, Nat.add_zero, Nat.one_ne_zero, zT, zs, zp, yC, zG, bP, Ty.isAgg, yB, zX, zR, zm, yh, zh, zV, yj, zg, ofV, zQ, zS, Bool.false_eq_true, if_false, Nat.reduceLeDiff, Nat.reduceLT, List.take, List.drop, List.map_cons, List.map_nil, List.append_nil, List.nil_append, List.cons_append, List.set, unD, yf, snapAll, zy, yi, zJ, zj, yE, z8, zw, ym, zU, Int.toNat_natCast, Int.natCast_nonneg, Int.toNat_zero, Int.le_refl, Nat.reduceMul, Nat.zero_mul, Nat.mul_zero, yl, zc, zW, zq, zb, zf, yA, eqD, zo, zK, yp, zH, zk, Nat.le_refl, Array.toList_map, List.size_toArray, List.getElem?_toArray, Nat.sub_zero, List.length_append, Nat.mul_one, zv, yo, bO, bS, z9, ze, zC, List.replicate, zE, zD, y9, allOk, yu, y8, newRow, yM, List.isEmpty, Bool.not_false, Bool.not_true, decide_eq_true_eq, zM, zP, zO, zz, zx, yc, zi, Option.map_some, Option.map_none, Option.isNone, Option.isSome, Option.getD_none, Option.getD_some, yP, zN, zn, Int.reduceToNat, Int.reduceLE, Int.reduceLT, Int.reduceBNe, Int.reduceBEq, tys, cks, hlt', hw3, h73a, h73b, Int.reduceToNat, Int.reduceLE, show (0 : Nat) < 2 from by decide, show (1 : Nat) < 2 from by decide, okF.allOk, hao, hle, hb1, hb2, List.length_map, zN]
             rfl
           · simp only [zd, yF, yD, z0, z5, Nat.reduceLT, Nat.reduceEqDiff, decide_true, decide_false, cond_true, cond_false]
             rfl
           · rfl
           first
           | (apply y6
              · simp only [za, z0, Nat.reduceLT, decide_true, cond_true, ins]
                rfl
              · simp only [za, z0, Nat.reduceLT, decide_true, cond_true, ins]
                rfl)
           | (apply yt
              · simp only [za, z0, Nat.reduceLT, decide_true, cond_true, ins]
                rfl))
        | ((first | apply zZ | apply y5)
           · rfl
           · simp only [za, z0, Nat.reduceLT, decide_true, cond_true, ins]
             rfl)
        | (apply zY
           · simp only [z6, get, z5, Nat.reduceEqDiff, decide_true, decide_false, cond_true, cond_false])
        | (apply zA
           · simp only [z6, get, z5, Nat.reduceEqDiff, decide_true, decide_false, cond_true, cond_false])
        | (apply yq
           · kernel_rfl
           · kernel_rfl)
        | (simp only [bW, if_true, Nat.reduceEqDiff, if_false])
      refine x7 (st1 := ⟨33, [(1, I 1), (2, .lref 0 0 3 0), (4, gD 1 4 ((e :: r) ++ [endF1 p i])), (13, I p.sheets), (14, I (i + 1 : Nat))], (0, ⟨[yW p], 3, false⟩) :: gO 1 4 xi ((e :: r) ++ [endF1 p i]), gN 1 ((e :: r) ++ [endF1 p i]), 0⟩) lk81_5 (by
        simp only [gc, gc0, gcWith, deepen, deepT, deepTI, deepO, deepOI, deepA, deepAI, deepEl, deepElI, catI, rootsT, keepT, rootsO, idsL, yS, yO, memN, get, zG, fromPin, renT, renN, placeOf, pinO, renO, renOb, zy, List.map_cons, List.map_nil, List.map_append, List.nil_append, List.cons_append, List.append_nil, z5, z0, Nat.reduceEqDiff, Nat.reduceLT, Nat.not_lt_zero, decide_true, decide_false, cond_true, cond_false, List.length_cons, List.length_nil, Nat.reduceAdd, Nat.zero_add, Nat.add_zero, Nat.lt_irrefl, bI, bD, bI2, okF.renL, okF.idsL, okF.idsL_app, gD, gO, gN, endF1, xi, yW, List.length_append, List.length_map]) (ih (i + 1) ((e :: r) ++ [endF1 p i]) (by omega) (by simp at he ⊢; omega) (fun l' hl' => h l' (by rw [hl', List.range'_succ]; simp)))
def endsF1 (p : Paper) : List F4 := (List.range' 0 p.sheets.toNat).map (endF1 p)
theorem t81_1 (p : Paper) (hwf : p.wf) : (lim cfg).pure 81 [yW p, I 1] = some (if knownF p 0 [] = 0 then .tup [.sl false ((endsF1 p).map xi) 4 none, I 0] else .tup [.sl true [] 0 none, I (knownF p 0 [])]) := by
  have h71' := t71 p 0 true [] hwf 0 (by simp) (by simp) (by simp)
  simp only [List.map_nil] at h71'
  by_cases hk : knownF p 0 [] = 0
  · rw [if_pos hk]
    rw [hk] at h71'
    obtain ⟨hok, hp, hs, hax⟩ := known_zero.1 hk
    obtain ⟨o1, o2, _⟩ := paperOK_def hok
    obtain ⟨n, hn⟩ := Int.eq_ofNat_of_zero_le (show 0 ≤ p.sheets by omega)
    refine yR (yG 81) cfn81 rfl (n := 33) rfl ?_
    generalize hF : xf cfg Tryd.f81 = F
    simp only [bW, if_true, Nat.reduceEqDiff, if_false, yJ]
    repeat' first
      | (intro hb; first | cases hb | skip)
      | ((first | apply zB | apply y7)
         · rfl
         · simp (disch := assumption) only [yx, z6, get, z5, z0, Nat.reduceEqDiff, decide_true, decide_false, cond_true, cond_false, yk, zr, zI, yg, zF, Bool.and_true, Bool.true_and, Bool.and_self, Bool.and_false, Bool.false_and, Bool.or_false, Bool.or_true, Bool.false_or, Bool.true_or, Bool.not_true, Bool.not_false, if_true, ye, List.length_cons, List.length_nil, yy, yb, z7, zu, zt, zl, List.getElem?_cons_zero, List.getElem?_cons_succ, Nat.reduceAdd, Nat.zero_add, Nat.add_zero, Nat.one_ne_zero, zT, zs, zp, yC, zG, bP, Ty.isAgg, yB, zX, zR, zm, yh, zh, zV, yj, zg, ofV, zQ, zS, Bool.false_eq_true, if_false, Nat.reduceLeDiff, Nat.reduceLT, List.take, List.drop, List.map_cons, List.map_nil, List.append_nil, List.nil_append, List.cons_append, List.set, unD, yf, snapAll, zy, yi, zJ, zj, yE, z8, zw, ym, zU, Int.toNat_natCast, Int.natCast_nonneg, Int.toNat_zero, Int.le_refl, Nat.reduceMul, Nat.zero_mul, Nat.mul_zero, yl, zc, zW, zq, zb, zf, yA, eqD, zo, zK, yp, zH, zk, Nat.le_refl, Array.toList_map, List.size_toArray, List.getElem?_toArray, Nat.sub_zero, List.length_append, Nat.mul_one, zv, yo, bO, bS, z9, ze, zC, List.replicate, zE, zD, y9, allOk, yu, y8, newRow, yM, List.isEmpty, Bool.not_false, Bool.not_true, decide_eq_true_eq, zM, zP, zO, zz, zx, yc, zi, Option.map_some, Option.map_none, Option.isNone, Option.isSome, Option.getD_none, Option.getD_some, yP, zN, zn, Int.reduceToNat, Int.reduceLE, Int.reduceLT, Int.reduceBNe, Int.reduceBEq, tys, cks, h71']
           rfl
         · simp only [zd, yF, yD, z0, z5, Nat.reduceLT, Nat.reduceEqDiff, decide_true, decide_false, cond_true, cond_false]
           rfl
         · rfl
         first
         | (apply y6
            · simp only [za, z0, Nat.reduceLT, decide_true, cond_true, ins]
              rfl
            · simp only [za, z0, Nat.reduceLT, decide_true, cond_true, ins]
              rfl)
         | (apply yt
            · simp only [za, z0, Nat.reduceLT, decide_true, cond_true, ins]
              rfl))
      | ((first | apply zZ | apply y5)
         · rfl
         · simp only [za, z0, Nat.reduceLT, decide_true, cond_true, ins]
           rfl)
      | (apply zY
         · simp only [z6, get, z5, Nat.reduceEqDiff, decide_true, decide_false, cond_true, cond_false])
      | (apply zA
         · simp only [z6, get, z5, Nat.reduceEqDiff, decide_true, decide_false, cond_true, cond_false])
      | (apply yq
         · kernel_rfl
         · kernel_rfl)
      | (simp only [bW, if_true, Nat.reduceEqDiff, if_false])
    refine w_loop (st1 := ⟨33, [(1, I 1), (2, .lref 0 0 3 0), (4, gD 1 4 ([])), (13, I p.sheets), (14, I (0 : Nat))], (0, ⟨[yW p], 3, false⟩) :: gO 1 4 xi ([]), gN 1 ([]), 0⟩) lk81_5 (by
      simp only [gc, gc0, gcWith, deepen, deepT, deepTI, deepO, deepOI, deepA, deepAI, deepEl, deepElI, catI, rootsT, keepT, rootsO, idsL, yS, yO, memN, get, zG, fromPin, renT, renN, placeOf, pinO, renO, renOb, zy, List.map_cons, List.map_nil, List.map_append, List.nil_append, List.cons_append, List.append_nil, z5, z0, Nat.reduceEqDiff, Nat.reduceLT, Nat.not_lt_zero, decide_true, decide_false, cond_true, cond_false, List.length_cons, List.length_nil, Nat.reduceAdd, Nat.zero_add, Nat.add_zero, Nat.lt_irrefl, bI, bD, bI2, gD, gO, gN]
      try rfl) (L81_5_1 p _ _ hwf hok n 0 [] (by omega) (by simp; omega) (fun l hl => ?_))
    obtain ⟨e, r, rfl⟩ : ∃ e r, l = e :: r := by
      cases l with
      | nil => 
        have := congrArg List.length hl
        simp at this; omega
      | cons e r => exact ⟨e, r, rfl⟩
    have hl' : e :: r = endsF1 p := by rw [hl]; simp [endsF1, hn]
    rw [← hl']
    simp only [gD, gO, gN, List.map_cons]
    simp only [bW, if_true, Nat.reduceEqDiff, if_false]
    repeat' first
      | (intro hb; first | cases hb | skip)
      | ((first | apply zB | apply y7)
         · rfl
         · simp (disch := assumption) only [yx, z6, get, z5, z0, Nat.reduceEqDiff, decide_true, decide_false, cond_true, cond_false, yk, zr, zI, yg, zF, Bool.and_true, Bool.true_and, Bool.and_self, Bool.and_false, Bool.false_and, Bool.or_false, Bool.or_true, Bool.false_or, Bool.true_or, Bool.not_true, Bool.not_false, if_true, ye, List.length_cons, List.length_nil, yy, yb, z7, zu, zt, zl, List.getElem?_cons_zero, List.getElem?_cons_succ, Nat.reduceAdd, Nat.zero_add, Nat.add_zero, Nat.one_ne_zero, zT, zs, zp, yC, zG, bP, Ty.isAgg, yB, zX, zR, zm, yh, zh, zV, yj, zg, ofV, zQ, zS, Bool.false_eq_true, if_false, Nat.reduceLeDiff, Nat.reduceLT, List.take, List.drop, List.map_cons, List.map_nil, List.append_nil, List.nil_append, List.cons_append, List.set, unD, yf, snapAll, zy, yi, zJ, zj, yE, z8, zw, ym, zU, Int.toNat_natCast, Int.natCast_nonneg, Int.toNat_zero, Int.le_refl, Nat.reduceMul, Nat.zero_mul, Nat.mul_zero, yl, zc, zW, zq, zb, zf, yA, eqD, zo, zK, yp, zH, zk, Nat.le_refl, Array.toList_map, List.size_toArray, List.getElem?_toArray, Nat.sub_zero, List.length_append, Nat.mul_one, zv, yo, bO, bS, z9, ze, zC, List.replicate, zE, zD, y9, allOk, yu, y8, newRow, yM, List.isEmpty, Bool.not_false, Bool.not_true, decide_eq_true_eq, zM, zP, zO, zz, zx, yc, zi, Option.map_some, Option.map_none, Option.isNone, Option.isSome, Option.getD_none, Option.getD_some, yP, zN, zn, Int.reduceToNat, Int.reduceLE, Int.reduceLT, Int.reduceBNe, Int.reduceBEq, tys, cks]
           rfl
         · simp only [zd, yF, yD, z0, z5, Nat.reduceLT, Nat.reduceEqDiff, decide_true, decide_false, cond_true, cond_false]
           rfl
         · rfl
         first
         | (apply y6
            · simp only [za, z0, Nat.reduceLT, decide_true, cond_true, ins]
              rfl
            · simp only [za, z0, Nat.reduceLT, decide_true, cond_true, ins]
              rfl)
         | (apply yt
            · simp only [za, z0, Nat.reduceLT, decide_true, cond_true, ins]
              rfl))
      | ((first | apply zZ | apply y5)
         · rfl
         · simp only [za, z0, Nat.reduceLT, decide_true, cond_true, ins]
           rfl)
      | (apply zY
         · simp only [z6, get, z5, Nat.reduceEqDiff, decide_true, decide_false, cond_true, cond_false])
      | (apply zA
         · simp only [z6, get, z5, Nat.reduceEqDiff, decide_true, decide_false, cond_true, cond_false])
      | (apply yq
         · kernel_rfl
         · kernel_rfl)
      | (simp only [bW, if_true, Nat.reduceEqDiff, if_false])
    subst hF
    simp only [xf, finF, yI, yX, zl, get, zG, z5, Nat.reduceEqDiff, decide_true, decide_false, cond_true, cond_false, yV, snapAll, zy, List.getElem?_cons_zero, List.getElem?_cons_succ, bP, Ty.isAgg, if_true, if_false, Bool.false_eq_true, Nat.zero_add, Nat.add_zero, List.length_cons, List.length_nil, Nat.reduceAdd, Nat.reduceLeDiff, List.take, List.drop, Bool.true_and, Bool.and_self, Nat.le_refl, List.map_cons, List.length_map, List.append_nil, List.nil_append, List.cons_append, Nat.sub_zero, bO, bS, tys, Tryd.f81, okF.snapAll, List.length_map, zN, okF.snap]
  · rw [if_neg hk]
    have hne : (knownF p 0 [] != 0) = true := by simp [hk]
    refine yR (yG 81) cfn81 rfl (n := 33) rfl ?_
    simp only [bW, if_true, Nat.reduceEqDiff, if_false, yJ]
    repeat' first
      | (intro hb; first | cases hb | skip)
      | ((first | apply zB | apply y7)
         · rfl
         · simp (disch := assumption) only [yx, z6, get, z5, z0, Nat.reduceEqDiff, decide_true, decide_false, cond_true, cond_false, yk, zr, zI, yg, zF, Bool.and_true, Bool.true_and, Bool.and_self, Bool.and_false, Bool.false_and, Bool.or_false, Bool.or_true, Bool.false_or, Bool.true_or, Bool.not_true, Bool.not_false, if_true, ye, List.length_cons, List.length_nil, yy, yb, z7, zu, zt, zl, List.getElem?_cons_zero, List.getElem?_cons_succ, Nat.reduceAdd, Nat.zero_add, Nat.add_zero, Nat.one_ne_zero, zT, zs, zp, yC, zG, bP, Ty.isAgg, yB, zX, zR, zm, yh, zh, zV, yj, zg, ofV, zQ, zS, Bool.false_eq_true, if_false, Nat.reduceLeDiff, Nat.reduceLT, List.take, List.drop, List.map_cons, List.map_nil, List.append_nil, List.nil_append, List.cons_append, List.set, unD, yf, snapAll, zy, yi, zJ, zj, yE, z8, zw, ym, zU, Int.toNat_natCast, Int.natCast_nonneg, Int.toNat_zero, Int.le_refl, Nat.reduceMul, Nat.zero_mul, Nat.mul_zero, yl, zc, zW, zq, zb, zf, yA, eqD, zo, zK, yp, zH, zk, Nat.le_refl, Array.toList_map, List.size_toArray, List.getElem?_toArray, Nat.sub_zero, List.length_append, Nat.mul_one, zv, yo, bO, bS, z9, ze, zC, List.replicate, zE, zD, y9, allOk, yu, y8, newRow, yM, List.isEmpty, Bool.not_false, Bool.not_true, decide_eq_true_eq, zM, zP, zO, zz, zx, yc, zi, Option.map_some, Option.map_none, Option.isNone, Option.isSome, Option.getD_none, Option.getD_some, yP, zN, zn, Int.reduceToNat, Int.reduceLE, Int.reduceLT, Int.reduceBNe, Int.reduceBEq, tys, cks, h71', hne]
           rfl
         · simp only [zd, yF, yD, z0, z5, Nat.reduceLT, Nat.reduceEqDiff, decide_true, decide_false, cond_true, cond_false]
           rfl
         · rfl
         first
         | (apply y6
            · simp only [za, z0, Nat.reduceLT, decide_true, cond_true, ins]
              rfl
            · simp only [za, z0, Nat.reduceLT, decide_true, cond_true, ins]
              rfl)
         | (apply yt
            · simp only [za, z0, Nat.reduceLT, decide_true, cond_true, ins]
              rfl))
      | ((first | apply zZ | apply y5)
         · rfl
         · simp only [za, z0, Nat.reduceLT, decide_true, cond_true, ins]
           rfl)
      | (apply zY
         · simp only [z6, get, z5, Nat.reduceEqDiff, decide_true, decide_false, cond_true, cond_false])
      | (apply zA
         · simp only [z6, get, z5, Nat.reduceEqDiff, decide_true, decide_false, cond_true, cond_false])
      | (apply yq
         · kernel_rfl
         · kernel_rfl)
      | (simp only [bW, if_true, Nat.reduceEqDiff, if_false])
    all_goals try simp only [xf, finF, yI, yX, zl, get, zG, z5, Nat.reduceEqDiff, decide_true, decide_false, cond_true, cond_false, yV, snapAll, zy, List.getElem?_cons_zero, List.getElem?_cons_succ, bP, Ty.isAgg, if_true, if_false, Bool.false_eq_true, Nat.zero_add, Nat.add_zero, List.length_cons, List.length_nil, Nat.reduceAdd, Nat.reduceLeDiff, List.take, List.drop, Bool.true_and, Bool.and_self, Nat.le_refl, List.map_cons, List.length_map, List.append_nil, List.nil_append, List.cons_append, Nat.sub_zero, bO, bS, tys, Tryd.f81]
    all_goals first | done | rfl | (simp_all []; done) | trace_state


end Go.VS
namespace Go.VS
open Go Go.Proofs
set_option maxHeartbeats 0
set_option linter.unusedSimpArgs false

theorem pd_why {t : Ty} {sub : Nat} {ws : List Reason} : yK t sub (whyD ws) = if t.isAgg then none else if sub = 0 then some (whyD ws) else none := by cases ws <;> rfl
noncomputable def lp48_5 : Code := x8 [1, 1, 0, 1, 0, 0] (yN Tryd.f48)
theorem lk48_5 : cfg.keep 48 (yT lp48_5) = [1, 13] := by kernel_rfl

noncomputable def lp57_4 : Code := x8 [1, 1, 0, 1, 0, 0] (yN Tryd.f57)
theorem lk57_4 : cfg.keep 57 (yT lp57_4) = [0, 1, 12, 13] := by kernel_rfl

theorem t32 (p : Paper) (hwf : p.wf) : (lim cfg).pure 32 [yW p] = some (if knownF p 0 [] = 0 then .tup [.sl false ((endsF0 p).map xi) 4 none, I 0] else .tup [.sl true [] 0 none, I (knownF p 0 [])]) := by
  have h81 := t81_0 p hwf
  split at h81 <;> rename_i hk
  · rw [if_pos hk]
    refine yR (yG 32) cfn32 rfl (n := 8) rfl ?_
    simp only [bW, if_true, Nat.reduceEqDiff, if_false, yJ]
    repeat' first
      | (intro hb; first | cases hb | skip)
      | ((first | apply zB | apply y7)
         · rfl
         · simp (disch := assumption) only [yx, z6, get, z5, z0, Nat.reduceEqDiff, decide_true, decide_false, cond_true, cond_false, yk, zr, zI, yg, zF, Bool.and_true, Bool.true_and, Bool.and_self, Bool.and_false, Bool.false_and, Bool.or_false, Bool.or_true, Bool.false_or, Bool.true_or, Bool.not_true, Bool.not_false, if_true, ye, List.length_cons, List.length_nil, yy, yb, z7, zu, zt, zl, List.getElem?_cons_zero, List.getElem?_cons_succ, Nat.reduceAdd, Nat.zero_add, Nat.add_zero, Nat.one_ne_zero, zT, zs, zp, yC, zG, bP, Ty.isAgg, yB, zX, zR, zm, yh, zh, zV, yj, zg, ofV, zQ, zS, Bool.false_eq_true, if_false, Nat.reduceLeDiff, Nat.reduceLT, List.take, List.drop, List.map_cons, List.map_nil, List.append_nil, List.nil_append, List.cons_append, List.set, unD, yf, snapAll, zy, yi, zJ, zj, yE, z8, zw, ym, zU, Int.toNat_natCast, Int.natCast_nonneg, Int.toNat_zero, Int.le_refl, Nat.reduceMul, Nat.zero_mul, Nat.mul_zero, yl, zc, zW, zq, zb, zf, yA, eqD, zo, zK, yp, zH, zk, Nat.le_refl, Array.toList_map, List.size_toArray, List.getElem?_toArray, Nat.sub_zero, List.length_append, Nat.mul_one, zv, yo, bO, bS, z9, ze, zC, List.replicate, zE, zD, y9, allOk, yu, y8, newRow, yM, List.isEmpty, Bool.not_false, Bool.not_true, decide_eq_true_eq, zM, zP, zO, zz, zx, yc, zi, Option.map_some, Option.map_none, Option.isNone, Option.isSome, Option.getD_none, Option.getD_some, yP, zN, zn, Int.reduceToNat, Int.reduceLE, Int.reduceLT, Int.reduceBNe, Int.reduceBEq, tys, cks, h81]
           rfl
         · simp only [zd, yF, yD, z0, z5, Nat.reduceLT, Nat.reduceEqDiff, decide_true, decide_false, cond_true, cond_false]
           rfl
         · rfl
         first
         | (apply y6
            · simp only [za, z0, Nat.reduceLT, decide_true, cond_true, ins]
              rfl
            · simp only [za, z0, Nat.reduceLT, decide_true, cond_true, ins]
              rfl)
         | (apply yt
            · simp only [za, z0, Nat.reduceLT, decide_true, cond_true, ins]
              rfl))
      | ((first | apply zZ | apply y5)
         · rfl
         · simp only [za, z0, Nat.reduceLT, decide_true, cond_true, ins]
           rfl)
      | (apply zY
         · simp only [z6, get, z5, Nat.reduceEqDiff, decide_true, decide_false, cond_true, cond_false])
      | (apply zA
         · simp only [z6, get, z5, Nat.reduceEqDiff, decide_true, decide_false, cond_true, cond_false])
      | (apply yq
         · kernel_rfl
         · kernel_rfl)
      | (simp only [bW, if_true, Nat.reduceEqDiff, if_false])
    all_goals try simp only [xf, finF, yI, yX, zl, get, zG, z5, Nat.reduceEqDiff, decide_true, decide_false, cond_true, cond_false, yV, snapAll, zy, List.getElem?_cons_zero, List.getElem?_cons_succ, bP, Ty.isAgg, if_true, if_false, Bool.false_eq_true, Nat.zero_add, Nat.add_zero, List.length_cons, List.length_nil, Nat.reduceAdd, Nat.reduceLeDiff, List.take, List.drop, Bool.true_and, Bool.and_self, Nat.le_refl, List.map_cons, List.length_map, List.append_nil, List.nil_append, List.cons_append, Nat.sub_zero, bO, bS, tys, Tryd.f32, okF.snapAll]
    all_goals first | done | rfl | (simp_all []; done) | trace_state
  · rw [if_neg hk]
    refine yR (yG 32) cfn32 rfl (n := 8) rfl ?_
    simp only [bW, if_true, Nat.reduceEqDiff, if_false, yJ]
    repeat' first
      | (intro hb; first | cases hb | skip)
      | ((first | apply zB | apply y7)
         · rfl
         · simp (disch := assumption) only [yx, z6, get, z5, z0, Nat.reduceEqDiff, decide_true, decide_false, cond_true, cond_false, yk, zr, zI, yg, zF, Bool.and_true, Bool.true_and, Bool.and_self, Bool.and_false, Bool.false_and, Bool.or_false, Bool.or_true, Bool.false_or, Bool.true_or, Bool.not_true, Bool.not_false, if_true, ye, List.length_cons, List.length_nil, yy, yb, z7, zu, zt, zl, List.getElem?_cons_zero, List.getElem?_cons_succ, Nat.reduceAdd, Nat.zero_add, Nat.add_zero, Nat.one_ne_zero, zT, zs, zp, yC, zG, bP, Ty.isAgg, yB, zX, zR, zm, yh, zh, zV, yj, zg, ofV, zQ, zS, Bool.false_eq_true, if_false, Nat.reduceLeDiff, Nat.reduceLT, List.take, List.drop, List.map_cons, List.map_nil, List.append_nil, List.nil_append, List.cons_append, List.set, unD, yf, snapAll, zy, yi, zJ, zj, yE, z8, zw, ym, zU, Int.toNat_natCast, Int.natCast_nonneg, Int.toNat_zero, Int.le_refl, Nat.reduceMul, Nat.zero_mul, Nat.mul_zero, yl, zc, zW, zq, zb, zf, yA, eqD, zo, zK, yp, zH, zk, Nat.le_refl, Array.toList_map, List.size_toArray, List.getElem?_toArray, Nat.sub_zero, List.length_append, Nat.mul_one, zv, yo, bO, bS, z9, ze, zC, List.replicate, zE, zD, y9, allOk, yu, y8, newRow, yM, List.isEmpty, Bool.not_false, Bool.not_true, decide_eq_true_eq, zM, zP, zO, zz, zx, yc, zi, Option.map_some, Option.map_none, Option.isNone, Option.isSome, Option.getD_none, Option.getD_some, yP, zN, zn, Int.reduceToNat, Int.reduceLE, Int.reduceLT, Int.reduceBNe, Int.reduceBEq, tys, cks, h81]
           rfl
         · simp only [zd, yF, yD, z0, z5, Nat.reduceLT, Nat.reduceEqDiff, decide_true, decide_false, cond_true, cond_false]
           rfl
         · rfl
         first
         | (apply y6
            · simp only [za, z0, Nat.reduceLT, decide_true, cond_true, ins]
              rfl
            · simp only [za, z0, Nat.reduceLT, decide_true, cond_true, ins]
              rfl)
         | (apply yt
            · simp only [za, z0, Nat.reduceLT, decide_true, cond_true, ins]
              rfl))
      | ((first | apply zZ | apply y5)
         · rfl
         · simp only [za, z0, Nat.reduceLT, decide_true, cond_true, ins]
           rfl)
      | (apply zY
         · simp only [z6, get, z5, Nat.reduceEqDiff, decide_true, decide_false, cond_true, cond_false])
      | (apply zA
         · simp only [z6, get, z5, Nat.reduceEqDiff, decide_true, decide_false, cond_true, cond_false])
      | (apply yq
         · kernel_rfl
         · kernel_rfl)
      | (simp only [bW, if_true, Nat.reduceEqDiff, if_false])
    all_goals try simp only [xf, finF, yI, yX, zl, get, zG, z5, Nat.reduceEqDiff, decide_true, decide_false, cond_true, cond_false, yV, snapAll, zy, List.getElem?_cons_zero, List.getElem?_cons_succ, bP, Ty.isAgg, if_true, if_false, Bool.false_eq_true, Nat.zero_add, Nat.add_zero, List.length_cons, List.length_nil, Nat.reduceAdd, Nat.reduceLeDiff, List.take, List.drop, Bool.true_and, Bool.and_self, Nat.le_refl, List.map_cons, List.length_map, List.append_nil, List.nil_append, List.cons_append, Nat.sub_zero, bO, bS, tys, Tryd.f32]
    all_goals first | done | rfl | (simp_all []; done) | trace_state

theorem t33 (p : Paper) (hwf : p.wf) : (lim cfg).pure 33 [yW p] = some (if knownF p 0 [] = 0 then .tup [.sl false ((endsF1 p).map xi) 4 none, I 0] else .tup [.sl true [] 0 none, I (knownF p 0 [])]) := by
  have h81 := t81_1 p hwf
  split at h81 <;> rename_i hk
  · rw [if_pos hk]
    refine yR (yG 33) cfn33 rfl (n := 8) rfl ?_
    simp only [bW, if_true, Nat.reduceEqDiff, if_false, yJ]
    repeat' first
      | (intro hb; first | cases hb | skip)
      | ((first | apply zB | apply y7)
         · rfl
         · simp (disch := assumption) only [yx, z6, get, z5, z0, Nat.reduceEqDiff, decide_true, decide_false, cond_true, cond_false, yk, zr, zI, yg, zF, Bool.and_true, Bool.true_and, Bool.and_self, Bool.and_false, Bool.false_and, Bool.or_false, Bool.or_true, Bool.false_or, Bool.true_or, Bool.not_true, Bool.not_false, if_true, ye, List.length_cons, List.length_nil, yy, yb, z7, zu, zt, zl, List.getElem?_cons_zero, List.getElem?_cons_succ, Nat.reduceAdd, Nat.zero_add, Nat.add_zero, Nat.one_ne_zero, zT, zs, zp, yC, zG, bP, Ty.isAgg, yB, zX, zR, zm, yh, zh, zV, yj, zg, ofV, zQ, zS, Bool.false_eq_true, if_false, Nat.reduceLeDiff, Nat.reduceLT, List.take, List.drop, List.map_cons, List.map_nil, List.append_nil, List.nil_append, List.cons_append, List.set, unD, yf, snapAll, zy, yi, zJ, zj, yE, z8, zw, ym, zU, Int.toNat_natCast, Int.natCast_nonneg, Int.toNat_zero, Int.le_refl, Nat.reduceMul, Nat.zero_mul, Nat.mul_zero, yl, zc, zW, zq, zb, zf, yA, eqD, zo, zK, yp, zH, zk, Nat.le_refl, Array.toList_map, List.size_toArray, List.getElem?_toArray, Nat.sub_zero, List.length_append, Nat.mul_one, zv, yo, bO, bS, z9, ze, zC, List.replicate, zE, zD, y9, allOk, yu, y8, newRow, yM, List.isEmpty, Bool.not_false, Bool.not_true, decide_eq_true_eq, zM, zP, zO, zz, zx, yc, zi, Option.map_some, Option.map_none, Option.isNone, Option.isSome, Option.getD_none, Option.getD_some, yP, zN, zn, Int.reduceToNat, Int.reduceLE, Int.reduceLT, Int.reduceBNe, Int.reduceBEq, tys, cks, h81]
           rfl
         · simp only [zd, yF, yD, z0, z5, Nat.reduceLT, Nat.reduceEqDiff, decide_true, decide_false, cond_true, cond_false]
           rfl
         · rfl
         first
         | (apply y6
            · simp only [za, z0, Nat.reduceLT, decide_true, cond_true, ins]
              rfl
            · simp only [za, z0, Nat.reduceLT, decide_true, cond_true, ins]
              rfl)
         | (apply yt
            · simp only [za, z0, Nat.reduceLT, decide_true, cond_true, ins]
              rfl))
      | ((first | apply zZ | apply y5)
         · rfl
         · simp only [za, z0, Nat.reduceLT, decide_true, cond_true, ins]
           rfl)
      | (apply zY
         · simp only [z6, get, z5, Nat.reduceEqDiff, decide_true, decide_false, cond_true, cond_false])
      | (apply zA
         · simp only [z6, get, z5, Nat.reduceEqDiff, decide_true, decide_false, cond_true, cond_false])
      | (apply yq
         · kernel_rfl
         · kernel_rfl)
      | (simp only [bW, if_true, Nat.reduceEqDiff, if_false])
    all_goals try simp only [xf, finF, yI, yX, zl, get, zG, z5, Nat.reduceEqDiff, decide_true, decide_false, cond_true, cond_false, yV, snapAll, zy, List.getElem?_cons_zero, List.getElem?_cons_succ, bP, Ty.isAgg, if_true, if_false, Bool.false_eq_true, Nat.zero_add, Nat.add_zero, List.length_cons, List.length_nil, Nat.reduceAdd, Nat.reduceLeDiff, List.take, List.drop, Bool.true_and, Bool.and_self, Nat.le_refl, List.map_cons, List.length_map, List.append_nil, List.nil_append, List.cons_append, Nat.sub_zero, bO, bS, tys, Tryd.f33, okF.snapAll]
    all_goals first | done | rfl | (simp_all []; done) | trace_state
  · rw [if_neg hk]
    refine yR (yG 33) cfn33 rfl (n := 8) rfl ?_
    simp only [bW, if_true, Nat.reduceEqDiff, if_false, yJ]
    repeat' first
      | (intro hb; first | cases hb | skip)
      | ((first | apply zB | apply y7)
         · rfl
         · simp (disch := assumption) only [yx, z6, get, z5, z0, Nat.reduceEqDiff, decide_true, decide_false, cond_true, cond_false, yk, zr, zI, yg, zF, Bool.and_true, Bool.true_and, Bool.and_self, Bool.and_false, Bool.false_and, Bool.or_false, Bool.or_true, Bool.false_or, Bool.true_or, Bool.not_true, Bool.not_false, if_true, ye, List.length_cons, List.length_nil, yy, yb, z7, zu, zt, zl, List.getElem?_cons_zero, List.getElem?_cons_succ, Nat.reduceAdd, Nat.zero_add, Nat.add_zero, Nat.one_ne_zero, zT, zs, zp, yC, zG, bP, Ty.isAgg, yB, zX, zR, zm, yh, zh, zV, yj, zg, ofV, zQ, zS, Bool.false_eq_true, if_false, Nat.reduceLeDiff, Nat.reduceLT, List.take, List.drop, List.map_cons, List.map_nil, List.append_nil, List.nil_append, List.cons_append, List.set, unD, yf, snapAll, zy, yi, zJ, zj, yE, z8, zw, ym, zU, Int.toNat_natCast, Int.natCast_nonneg, Int.toNat_zero, Int.le_refl, Nat.reduceMul, Nat.zero_mul, Nat.mul_zero, yl, zc, zW, zq, zb, zf, yA, eqD, zo, zK, yp, zH, zk, Nat.le_refl, Array.toList_map, List.size_toArray, List.getElem?_toArray, Nat.sub_zero, List.length_append, Nat.mul_one, zv, yo, bO, bS, z9, ze, zC, List.replicate, zE, zD, y9, allOk, yu, y8, newRow, yM, List.isEmpty, Bool.not_false, Bool.not_true, decide_eq_true_eq, zM, zP, zO, zz, zx, yc, zi, Option.map_some, Option.map_none, Option.isNone, Option.isSome, Option.getD_none, Option.getD_some, yP, zN, zn, Int.reduceToNat, Int.reduceLE, Int.reduceLT, Int.reduceBNe, Int.reduceBEq, tys, cks, h81]
           rfl
         · simp only [zd, yF, yD, z0, z5, Nat.reduceLT, Nat.reduceEqDiff, decide_true, decide_false, cond_true, cond_false]
           rfl
         · rfl
         first
         | (apply y6
            · simp only [za, z0, Nat.reduceLT, decide_true, cond_true, ins]
              rfl
            · simp only [za, z0, Nat.reduceLT, decide_true, cond_true, ins]
              rfl)
         | (apply yt
            · simp only [za, z0, Nat.reduceLT, decide_true, cond_true, ins]
              rfl))
      | ((first | apply zZ | apply y5)
         · rfl
         · simp only [za, z0, Nat.reduceLT, decide_true, cond_true, ins]
           rfl)
      | (apply zY
         · simp only [z6, get, z5, Nat.reduceEqDiff, decide_true, decide_false, cond_true, cond_false])
      | (apply zA
         · simp only [z6, get, z5, Nat.reduceEqDiff, decide_true, decide_false, cond_true, cond_false])
      | (apply yq
         · kernel_rfl
         · kernel_rfl)
      | (simp only [bW, if_true, Nat.reduceEqDiff, if_false])
    all_goals try simp only [xf, finF, yI, yX, zl, get, zG, z5, Nat.reduceEqDiff, decide_true, decide_false, cond_true, cond_false, yV, snapAll, zy, List.getElem?_cons_zero, List.getElem?_cons_succ, bP, Ty.isAgg, if_true, if_false, Bool.false_eq_true, Nat.zero_add, Nat.add_zero, List.length_cons, List.length_nil, Nat.reduceAdd, Nat.reduceLeDiff, List.take, List.drop, Bool.true_and, Bool.and_self, Nat.le_refl, List.map_cons, List.length_map, List.append_nil, List.nil_append, List.cons_append, Nat.sub_zero, bO, bS, tys, Tryd.f33]
    all_goals first | done | rfl | (simp_all []; done) | trace_state

def clashR (p : Paper) : Option Chn := match clashA p 0 with | some c => some c | none => clashA p 1
def clashD (o : Option Chn) : D := match o with | some c => .tup [whyD c.why, B true, I 0] | none => .tup [.sl true [] 0 none, B false, I 0]
theorem t48 (p : Paper) (hwf : p.wf) : (lim cfg).pure 48 [yW p] = some (if xc p then clashD (clashR p) else .tup [.sl true [] 0 none, B false, I 30]) := by
  have h15 := t15 p hwf
  unfold check at h15
  cases hok : xc p with
  | false =>
    rw [hok] at h15
    simp only [Bool.false_eq_true, if_false] at h15 ⊢
    refine yR (yG 48) cfn48 rfl (n := 26) rfl ?_
    simp only [bW, if_true, Nat.reduceEqDiff, if_false, yJ]
    repeat' first
      | (intro hb; first | cases hb | skip)
      | ((first | apply zB | apply y7)
         · rfl
         · simp (disch := assumption) only [yx, z6, get, z5, z0, Nat.reduceEqDiff, decide_true, decide_false, cond_true, cond_false, yk, zr, zI, yg, zF, Bool.and_true, Bool.true_and, Bool.and_self, Bool.and_false, Bool.false_and, Bool.or_false, Bool.or_true, Bool.false_or, Bool.true_or, Bool.not_true, Bool.not_false, if_true, ye, List.length_cons, List.length_nil, yy, yb, z7, zu, zt, zl, List.getElem?_cons_zero, List.getElem?_cons_succ, Nat.reduceAdd, Nat.zero_add, Nat.add_zero, Nat.one_ne_zero, zT, zs, zp, yC, zG, bP, Ty.isAgg, yB, zX, zR, zm, yh, zh, zV, yj, zg, ofV, zQ, zS, Bool.false_eq_true, if_false, Nat.reduceLeDiff, Nat.reduceLT, List.take, List.drop, List.map_cons, List.map_nil, List.append_nil, List.nil_append, List.cons_append, List.set, unD, yf, snapAll, zy, yi, zJ, zj, yE, z8, zw, ym, zU, Int.toNat_natCast, Int.natCast_nonneg, Int.toNat_zero, Int.le_refl, Nat.reduceMul, Nat.zero_mul, Nat.mul_zero, yl, zc, zW, zq, zb, zf, yA, eqD, zo, zK, yp, zH, zk, Nat.le_refl, Array.toList_map, List.size_toArray, List.getElem?_toArray, Nat.sub_zero, List.length_append, Nat.mul_one, zv, yo, bO, bS, z9, ze, zC, List.replicate, zE, zD, y9, allOk, yu, y8, newRow, yM, List.isEmpty, Bool.not_false, Bool.not_true, decide_eq_true_eq, zM, zP, zO, zz, zx, yc, zi, Option.map_some, Option.map_none, Option.isNone, Option.isSome, Option.getD_none, Option.getD_some, yP, zN, zn, Int.reduceToNat, Int.reduceLE, Int.reduceLT, Int.reduceBNe, Int.reduceBEq, tys, cks, h15]
           rfl
         · simp only [zd, yF, yD, z0, z5, Nat.reduceLT, Nat.reduceEqDiff, decide_true, decide_false, cond_true, cond_false]
           rfl
         · rfl
         first
         | (apply y6
            · simp only [za, z0, Nat.reduceLT, decide_true, cond_true, ins]
              rfl
            · simp only [za, z0, Nat.reduceLT, decide_true, cond_true, ins]
              rfl)
         | (apply yt
            · simp only [za, z0, Nat.reduceLT, decide_true, cond_true, ins]
              rfl))
      | ((first | apply zZ | apply y5)
         · rfl
         · simp only [za, z0, Nat.reduceLT, decide_true, cond_true, ins]
           rfl)
      | (apply zY
         · simp only [z6, get, z5, Nat.reduceEqDiff, decide_true, decide_false, cond_true, cond_false])
      | (apply zA
         · simp only [z6, get, z5, Nat.reduceEqDiff, decide_true, decide_false, cond_true, cond_false])
      | (apply yq
         · kernel_rfl
         · kernel_rfl)
      | (simp only [bW, if_true, Nat.reduceEqDiff, if_false])
    all_goals try simp only [xf, finF, yI, yX, zl, get, zG, z5, Nat.reduceEqDiff, decide_true, decide_false, cond_true, cond_false, yV, snapAll, zy, List.getElem?_cons_zero, List.getElem?_cons_succ, bP, Ty.isAgg, if_true, if_false, Bool.false_eq_true, Nat.zero_add, Nat.add_zero, List.length_cons, List.length_nil, Nat.reduceAdd, Nat.reduceLeDiff, List.take, List.drop, Bool.true_and, Bool.and_self, Nat.le_refl, List.map_cons, List.length_map, List.append_nil, List.nil_append, List.cons_append, Nat.sub_zero, bO, bS, tys, Tryd.f48]
    all_goals first | done | rfl | (simp_all []; done) | trace_state
  | true =>
    rw [hok] at h15
    simp only [if_true] at h15 ⊢
    have h0 := t99 p 0 hwf hok
    have h1 := t99 p 1 hwf hok
    unfold clashR
    have e1 : IntKind.i64.wrap (0 + 1) = 1 := by decide
    have e2 : IntKind.i64.wrap (1 + 1) = 2 := by decide
    cases hc0 : clashA p 0 with
    | some c =>
      rw [hc0] at h0
      simp only [yz] at h0
      simp only [clashD]
      refine yR (yG 48) cfn48 rfl (n := 26) rfl ?_
      generalize hF : xf cfg Tryd.f48 = F
      simp only [bW, if_true, Nat.reduceEqDiff, if_false, yJ]
      repeat' first
        | (intro hb; first | cases hb | skip)
        | ((first | apply zB | apply y7)
           · rfl
           · simp (disch := assumption) only [yx, z6, get, z5, z0, Nat.reduceEqDiff, decide_true, decide_false, cond_true, cond_false, yk, zr, zI, yg, zF, Bool.and_true, Bool.true_and, Bool.and_self, Bool.and_false, Bool.false_and, Bool.or_false, Bool.or_true, Bool.false_or, Bool.true_or, Bool.not_true, Bool.not_false, if_true, ye, List.length_cons, List.length_nil, yy, yb, z7, zu, zt, zl, List.getElem?_cons_zero, List.getElem?_cons_succ, Nat.reduceAdd, Nat.zero_add, Nat.add_zero, Nat.one_ne_zero, zT, zs, zp, yC, zG, bP, Ty.isAgg, yB, zX, zR, zm, yh, zh, zV, yj, zg, ofV, zQ, zS, Bool.false_eq_true, if_false, Nat.reduceLeDiff, Nat.reduceLT, List.take, List.drop, List.map_cons, List.map_nil, List.append_nil, List.nil_append, List.cons_append, List.set, unD, yf, snapAll, zy, yi, zJ, zj, yE, z8, zw, ym, zU, Int.toNat_natCast, Int.natCast_nonneg, Int.toNat_zero, Int.le_refl, Nat.reduceMul, Nat.zero_mul, Nat.mul_zero, yl, zc, zW, zq, zb, zf, yA, eqD, zo, zK, yp, zH, zk, Nat.le_refl, Array.toList_map, List.size_toArray, List.getElem?_toArray, Nat.sub_zero, List.length_append, Nat.mul_one, zv, yo, bO, bS, z9, ze, zC, List.replicate, zE, zD, y9, allOk, yu, y8, newRow, yM, List.isEmpty, Bool.not_false, Bool.not_true, decide_eq_true_eq, zM, zP, zO, zz, zx, yc, zi, Option.map_some, Option.map_none, Option.isNone, Option.isSome, Option.getD_none, Option.getD_some, yP, zN, zn, Int.reduceToNat, Int.reduceLE, Int.reduceLT, Int.reduceBNe, Int.reduceBEq, tys, cks, h15]
             rfl
           · simp only [zd, yF, yD, z0, z5, Nat.reduceLT, Nat.reduceEqDiff, decide_true, decide_false, cond_true, cond_false]
             rfl
           · rfl
           first
           | (apply y6
              · simp only [za, z0, Nat.reduceLT, decide_true, cond_true, ins]
                rfl
              · simp only [za, z0, Nat.reduceLT, decide_true, cond_true, ins]
                rfl)
           | (apply yt
              · simp only [za, z0, Nat.reduceLT, decide_true, cond_true, ins]
                rfl))
        | ((first | apply zZ | apply y5)
           · rfl
           · simp only [za, z0, Nat.reduceLT, decide_true, cond_true, ins]
             rfl)
        | (apply zY
           · simp only [z6, get, z5, Nat.reduceEqDiff, decide_true, decide_false, cond_true, cond_false])
        | (apply zA
           · simp only [z6, get, z5, Nat.reduceEqDiff, decide_true, decide_false, cond_true, cond_false])
        | (apply yq
           · kernel_rfl
           · kernel_rfl)
        | (simp only [bW, if_true, Nat.reduceEqDiff, if_false])
      refine w_loop (st1 := ⟨26, [(1, .lref 0 0 3 0), (13, I 0)], [(0, ⟨[yW p], 3, false⟩)], 1, 0⟩) lk48_5 (by kernel_rfl) ?_
      refine yw ?_
      try dsimp only [lp48_5, x8, yN, Tryd.f48]
      simp only [bW, if_true, Nat.reduceEqDiff, if_false]
      repeat' first
        | (intro hb; first | cases hb | skip)
        | ((first | apply zB | apply y7)
           · rfl
           · simp (disch := assumption) only [yx, z6, get, z5, z0, Nat.reduceEqDiff, decide_true, decide_false, cond_true, cond_false, yk, zr, zI, yg, zF, Bool.and_true, Bool.true_and, Bool.and_self, Bool.and_false, Bool.false_and, Bool.or_false, Bool.or_true, Bool.false_or, Bool.true_or, Bool.not_true, Bool.not_false, if_true, ye, List.length_cons, List.length_nil, yy, yb, z7, zu, zt, zl, List.getElem?_cons_zero, List.getElem?_cons_succ, Nat.reduceAdd, Nat.zero_add, Nat.add_zero, Nat.one_ne_zero, zT, zs, zp, yC, zG, bP, Ty.isAgg, yB, zX, zR, zm, yh, zh, zV, yj, zg, ofV, zQ, zS, Bool.false_eq_true, if_false, Nat.reduceLeDiff, Nat.reduceLT, List.take, List.drop, List.map_cons, List.map_nil, List.append_nil, List.nil_append, List.cons_append, List.set, unD, yf, snapAll, zy, yi, zJ, zj, yE, z8, zw, ym, zU, Int.toNat_natCast, Int.natCast_nonneg, Int.toNat_zero, Int.le_refl, Nat.reduceMul, Nat.zero_mul, Nat.mul_zero, yl, zc, zW, zq, zb, zf, yA, eqD, zo, zK, yp, zH, zk, Nat.le_refl, Array.toList_map, List.size_toArray, List.getElem?_toArray, Nat.sub_zero, List.length_append, Nat.mul_one, zv, yo, bO, bS, z9, ze, zC, List.replicate, zE, zD, y9, allOk, yu, y8, newRow, yM, List.isEmpty, Bool.not_false, Bool.not_true, decide_eq_true_eq, zM, zP, zO, zz, zx, yc, zi, Option.map_some, Option.map_none, Option.isNone, Option.isSome, Option.getD_none, Option.getD_some, yP, zN, zn, Int.reduceToNat, Int.reduceLE, Int.reduceLT, Int.reduceBNe, Int.reduceBEq, tys, cks, h0, whyD_one, pd_why]
             rfl
           · simp only [zd, yF, yD, z0, z5, Nat.reduceLT, Nat.reduceEqDiff, decide_true, decide_false, cond_true, cond_false]
             rfl
           · rfl
           first
           | (apply y6
              · simp only [za, z0, Nat.reduceLT, decide_true, cond_true, ins]
                rfl
              · simp only [za, z0, Nat.reduceLT, decide_true, cond_true, ins]
                rfl)
           | (apply yt
              · simp only [za, z0, Nat.reduceLT, decide_true, cond_true, ins]
                rfl))
        | ((first | apply zZ | apply y5)
           · rfl
           · simp only [za, z0, Nat.reduceLT, decide_true, cond_true, ins]
             rfl)
        | (apply zY
           · simp only [z6, get, z5, Nat.reduceEqDiff, decide_true, decide_false, cond_true, cond_false])
        | (apply zA
           · simp only [z6, get, z5, Nat.reduceEqDiff, decide_true, decide_false, cond_true, cond_false])
        | (apply yq
           · kernel_rfl
           · kernel_rfl)
        | (simp only [bW, if_true, Nat.reduceEqDiff, if_false])
      subst hF
      simp only [xf, finF, yI, yX, zl, get, zG, z5, Nat.reduceEqDiff, decide_true, decide_false, cond_true, cond_false, yV, snapAll, zy, List.getElem?_cons_zero, List.getElem?_cons_succ, bP, Ty.isAgg, if_true, if_false, Bool.false_eq_true, Nat.zero_add, Nat.add_zero, List.length_cons, List.length_nil, Nat.reduceAdd, Nat.reduceLeDiff, List.take, List.drop, Bool.true_and, Bool.and_self, Nat.le_refl, List.map_cons, List.length_map, List.append_nil, List.nil_append, List.cons_append, Nat.sub_zero, bO, bS, tys, Tryd.f48, snap_whyD]
    | none =>
      rw [hc0] at h0
      simp only [yz] at h0
      cases hc1 : clashA p 1 with
      | some c =>
        rw [hc1] at h1
        simp only [yz] at h1
        simp only [clashD]
        refine yR (yG 48) cfn48 rfl (n := 26) rfl ?_
        generalize hF : xf cfg Tryd.f48 = F
        simp only [bW, if_true, Nat.reduceEqDiff, if_false, yJ]
        repeat' first
          | (intro hb; first | cases hb | skip)
          | ((first | apply zB | apply y7)
             · rfl
             · simp (disch := assumption) only [yx, z6, get, z5, z0, Nat.reduceEqDiff, decide_true, decide_false, cond_true, cond_false, yk, zr, zI, yg, zF, Bool.and_true, Bool.true_and, Bool.and_self, Bool.and_false, Bool.false_and, Bool.or_false, Bool.or_true, Bool.false_or, Bool.true_or, Bool.not_true, Bool.not_false, if_true, ye, List.length_cons, List.length_nil, yy, yb, z7, zu, zt, zl, List.getElem?_cons_zero, List.getElem?_cons_succ, Nat.reduceAdd, Nat.zero_add, Nat.add_zero, Nat.one_ne_zero, zT, zs, zp, yC, zG, bP, Ty.isAgg, yB, zX, zR, zm, yh, zh, zV, yj, zg, ofV, zQ, zS, Bool.false_eq_true, if_false, Nat.reduceLeDiff, Nat.reduceLT, List.take, List.drop, List.map_cons, List.map_nil, List.append_nil, List.nil_append, List.cons_append, List.set, unD, yf, snapAll, zy, yi, zJ, zj, yE, z8, zw, ym, zU, Int.toNat_natCast, Int.natCast_nonneg, Int.toNat_zero, Int.le_refl, Nat.reduceMul, Nat.zero_mul, Nat.mul_zero, yl, zc, zW, zq, zb, zf, yA, eqD, zo, zK, yp, zH, zk, Nat.le_refl, Array.toList_map, List.size_toArray, List.getElem?_toArray, Nat.sub_zero, List.length_append, Nat.mul_one, zv, yo, bO, bS, z9, ze, zC, List.replicate, zE, zD, y9, allOk, yu, y8, newRow, yM, List.isEmpty, Bool.not_false, Bool.not_true, decide_eq_true_eq, zM, zP, zO, zz, zx, yc, zi, Option.map_some, Option.map_none, Option.isNone, Option.isSome, Option.getD_none, Option.getD_some, yP, zN, zn, Int.reduceToNat, Int.reduceLE, Int.reduceLT, Int.reduceBNe, Int.reduceBEq, tys, cks, h15]
               rfl
             · simp only [zd, yF, yD, z0, z5, Nat.reduceLT, Nat.reduceEqDiff, decide_true, decide_false, cond_true, cond_false]
               rfl
             · rfl
             first
             | (apply y6
                · simp only [za, z0, Nat.reduceLT, decide_true, cond_true, ins]
                  rfl
                · simp only [za, z0, Nat.reduceLT, decide_true, cond_true, ins]
                  rfl)
             | (apply yt
                · simp only [za, z0, Nat.reduceLT, decide_true, cond_true, ins]
                  rfl))
          | ((first | apply zZ | apply y5)
             · rfl
             · simp only [za, z0, Nat.reduceLT, decide_true, cond_true, ins]
               rfl)
          | (apply zY
             · simp only [z6, get, z5, Nat.reduceEqDiff, decide_true, decide_false, cond_true, cond_false])
          | (apply zA
             · simp only [z6, get, z5, Nat.reduceEqDiff, decide_true, decide_false, cond_true, cond_false])
          | (apply yq
             · kernel_rfl
             · kernel_rfl)
          | (simp only [bW, if_true, Nat.reduceEqDiff, if_false])
        refine w_loop (st1 := ⟨26, [(1, .lref 0 0 3 0), (13, I 0)], [(0, ⟨[yW p], 3, false⟩)], 1, 0⟩) lk48_5 (by kernel_rfl) ?_
        refine yw ?_
        try dsimp only [lp48_5, x8, yN, Tryd.f48]
        simp only [bW, if_true, Nat.reduceEqDiff, if_false]
        repeat' first
          | (intro hb; first | cases hb | skip)
          | ((first | apply zB | apply y7)
             · rfl
             · simp (disch := assumption) only [yx, z6, get, z5, z0, Nat.reduceEqDiff, decide_true, decide_false, cond_true, cond_false, yk, zr, zI, yg, zF, Bool.and_true, Bool.true_and, Bool.and_self, Bool.and_false, Bool.false_and, Bool.or_false, Bool.or_true, Bool.false_or, Bool.true_or, Bool.not_true, Bool.not_false, if_true, ye, List.length_cons, List.length_nil, yy, yb, z7, zu, zt, zl, List.getElem?_cons_zero, List.getElem?_cons_succ, Nat.reduceAdd, Nat.zero_add, Nat.add_zero, Nat.one_ne_zero, zT, zs, zp, yC, zG, bP, Ty.isAgg, yB, zX, zR, zm, yh, zh, zV, yj, zg, ofV, zQ, zS, Bool.false_eq_true, if_false, Nat.reduceLeDiff, Nat.reduceLT, List.take, List.drop, List.map_cons, List.map_nil, List.append_nil, List.nil_append, List.cons_append, List.set, unD, yf, snapAll, zy, yi, zJ, zj, yE, z8, zw, ym, zU, Int.toNat_natCast, Int.natCast_nonneg, Int.toNat_zero, Int.le_refl, Nat.reduceMul, Nat.zero_mul, Nat.mul_zero, yl, zc, zW, zq, zb, zf, yA, eqD, zo, zK, yp, zH, zk, Nat.le_refl, Array.toList_map, List.size_toArray, List.getElem?_toArray, Nat.sub_zero, List.length_append, Nat.mul_one, zv, yo, bO, bS, z9, ze, zC, List.replicate, zE, zD, y9, allOk, yu, y8, newRow, yM, List.isEmpty, Bool.not_false, Bool.not_true, decide_eq_true_eq, zM, zP, zO, zz, zx, yc, zi, Option.map_some, Option.map_none, Option.isNone, Option.isSome, Option.getD_none, Option.getD_some, yP, zN, zn, Int.reduceToNat, Int.reduceLE, Int.reduceLT, Int.reduceBNe, Int.reduceBEq, tys, cks, h0, whyD_one, pd_why, e1]
               rfl
             · simp only [zd, yF, yD, z0, z5, Nat.reduceLT, Nat.reduceEqDiff, decide_true, decide_false, cond_true, cond_false]
               rfl
             · rfl
             first
             | (apply y6
                · simp only [za, z0, Nat.reduceLT, decide_true, cond_true, ins]
                  rfl
                · simp only [za, z0, Nat.reduceLT, decide_true, cond_true, ins]
                  rfl)
             | (apply yt
                · simp only [za, z0, Nat.reduceLT, decide_true, cond_true, ins]
                  rfl))
          | ((first | apply zZ | apply y5)
             · rfl
             · simp only [za, z0, Nat.reduceLT, decide_true, cond_true, ins]
               rfl)
          | (apply zY
             · simp only [z6, get, z5, Nat.reduceEqDiff, decide_true, decide_false, cond_true, cond_false])
          | (apply zA
             · simp only [z6, get, z5, Nat.reduceEqDiff, decide_true, decide_false, cond_true, cond_false])
          | (apply yq
             · kernel_rfl
             · kernel_rfl)
          | (simp only [bW, if_true, Nat.reduceEqDiff, if_false])
        refine x7 (st1 := ⟨26, [(1, .lref 0 0 3 0), (13, I 1)], [(0, ⟨[yW p], 3, false⟩)], 1, 0⟩) lk48_5 (by kernel_rfl) ?_
        refine yw ?_
        try dsimp only [lp48_5, x8, yN, Tryd.f48]
        simp only [bW, if_true, Nat.reduceEqDiff, if_false]
        repeat' first
          | (intro hb; first | cases hb | skip)
          | ((first | apply zB | apply y7)
             · rfl
             · simp (disch := assumption) only [yx, z6, get, z5, z0, Nat.reduceEqDiff, decide_true, decide_false, cond_true, cond_false, yk, zr, zI, yg, zF, Bool.and_true, Bool.true_and, Bool.and_self, Bool.and_false, Bool.false_and, Bool.or_false, Bool.or_true, Bool.false_or, Bool.true_or, Bool.not_true, Bool.not_false, if_true, ye, List.length_cons, List.length_nil, yy, yb, z7, zu, zt, zl, List.getElem?_cons_zero, List.getElem?_cons_succ, Nat.reduceAdd, Nat.zero_add, Nat.add_zero, Nat.one_ne_zero, zT, zs, zp, yC, zG, bP, Ty.isAgg, yB, zX, zR, zm, yh, zh, zV, yj, zg, ofV, zQ, zS, Bool.false_eq_true, if_false, Nat.reduceLeDiff, Nat.reduceLT, List.take, List.drop, List.map_cons, List.map_nil, List.append_nil, List.nil_append, List.cons_append, List.set, unD, yf, snapAll, zy, yi, zJ, zj, yE, z8, zw, ym, zU, Int.toNat_natCast, Int.natCast_nonneg, Int.toNat_zero, Int.le_refl, Nat.reduceMul, Nat.zero_mul, Nat.mul_zero, yl, zc, zW, zq, zb, zf, yA, eqD, zo, zK, yp, zH, zk, Nat.le_refl, Array.toList_map, List.size_toArray, List.getElem?_toArray, Nat.sub_zero, List.length_append, Nat.mul_one, zv, yo, bO, bS, z9, ze, zC, List.replicate, zE, zD, y9, allOk, yu, y8, newRow, yM, List.isEmpty, Bool.not_false, Bool.not_true, decide_eq_true_eq, zM, zP, zO, zz, zx, yc, zi, Option.map_some, Option.map_none, Option.isNone, Option.isSome, Option.getD_none, Option.getD_some, yP, zN, zn, Int.reduceToNat, Int.reduceLE, Int.reduceLT, Int.reduceBNe, Int.reduceBEq, tys, cks, h1, whyD_one, pd_why, e1]
               rfl
             · simp only [zd, yF, yD, z0, z5, Nat.reduceLT, Nat.reduceEqDiff, decide_true, decide_false, cond_true, cond_false]
               rfl
             · rfl
             first
             | (apply y6
                · simp only [za, z0, Nat.reduceLT, decide_true, cond_true, ins]
                  rfl
                · simp only [za, z0, Nat.reduceLT, decide_true, cond_true, ins]
                  rfl)
             | (apply yt
                · simp only [za, z0, Nat.reduceLT, decide_true, cond_true, ins]
                  rfl))
          | ((first | apply zZ | apply y5)
             · rfl
             · simp only [za, z0, Nat.reduceLT, decide_true, cond_true, ins]
               rfl)
          | (apply zY
             · simp only [z6, get, z5, Nat.reduceEqDiff, decide_true, decide_false, cond_true, cond_false])
          | (apply zA
             · simp only [z6, get, z5, Nat.reduceEqDiff, decide_true, decide_false, cond_true, cond_false])
          | (apply yq
             · kernel_rfl
             · kernel_rfl)
          | (simp only [bW, if_true, Nat.reduceEqDiff, if_false])
        subst hF
        simp only [xf, finF, yI, yX, zl, get, zG, z5, Nat.reduceEqDiff, decide_true, decide_false, cond_true, cond_false, yV, snapAll, zy, List.getElem?_cons_zero, List.getElem?_cons_succ, bP, Ty.isAgg, if_true, if_false, Bool.false_eq_true, Nat.zero_add, Nat.add_zero, List.length_cons, List.length_nil, Nat.reduceAdd, Nat.reduceLeDiff, List.take, List.drop, Bool.true_and, Bool.and_self, Nat.le_refl, List.map_cons, List.length_map, List.append_nil, List.nil_append, List.cons_append, Nat.sub_zero, bO, bS, tys, Tryd.f48, snap_whyD]
      | none =>
        rw [hc1] at h1
        simp only [yz] at h1
        simp only [clashD]
        refine yR (yG 48) cfn48 rfl (n := 26) rfl ?_
        generalize hF : xf cfg Tryd.f48 = F
        simp only [bW, if_true, Nat.reduceEqDiff, if_false, yJ]
        repeat' first
          | (intro hb; first | cases hb | skip)
          | ((first | apply zB | apply y7)
             · rfl
             · simp (disch := assumption) only [yx, z6, get, z5, z0, Nat.reduceEqDiff, decide_true, decide_false, cond_true, cond_false, yk, zr, zI, yg, zF, Bool.and_true, Bool.true_and, Bool.and_self, Bool.and_false, Bool.false_and, Bool.or_false, Bool.or_true, Bool.false_or, Bool.true_or, Bool.not_true, Bool.not_false, if_true, ye, List.length_cons, List.length_nil, yy, yb, z7, zu, zt, zl, List.getElem?_cons_zero, List.getElem?_cons_succ, Nat.reduceAdd, Nat.zero_add, Nat.add_zero, Nat.one_ne_zero, zT, zs, zp, yC, zG, bP, Ty.isAgg, yB, zX, zR, zm, yh, zh, zV, yj, zg, ofV, zQ, zS, Bool.false_eq_true, if_false, Nat.reduceLeDiff, Nat.reduceLT, List.take, List.drop, List.map_cons, List.map_nil, List.append_nil, List.nil_append, List.cons_append, List.set, unD, yf, snapAll, zy, yi, zJ, zj, yE, z8, zw, ym, zU, Int.toNat_natCast, Int.natCast_nonneg, Int.toNat_zero, Int.le_refl, Nat.reduceMul, Nat.zero_mul, Nat.mul_zero, yl, zc, zW, zq, zb, zf, yA, eqD, zo, zK, yp, zH, zk, Nat.le_refl, Array.toList_map, List.size_toArray, List.getElem?_toArray, Nat.sub_zero, List.length_append, Nat.mul_one, zv, yo, bO, bS, z9, ze, zC, List.replicate, zE, zD, y9, allOk, yu, y8, newRow, yM, List.isEmpty, Bool.not_false, Bool.not_true, decide_eq_true_eq, zM, zP, zO, zz, zx, yc, zi, Option.map_some, Option.map_none, Option.isNone, Option.isSome, Option.getD_none, Option.getD_some, yP, zN, zn, Int.reduceToNat, Int.reduceLE, Int.reduceLT, Int.reduceBNe, Int.reduceBEq, tys, cks, h15]
               rfl
             · simp only [zd, yF, yD, z0, z5, Nat.reduceLT, Nat.reduceEqDiff, decide_true, decide_false, cond_true, cond_false]
               rfl
             · rfl
             first
             | (apply y6
                · simp only [za, z0, Nat.reduceLT, decide_true, cond_true, ins]
                  rfl
                · simp only [za, z0, Nat.reduceLT, decide_true, cond_true, ins]
                  rfl)
             | (apply yt
                · simp only [za, z0, Nat.reduceLT, decide_true, cond_true, ins]
                  rfl))
          | ((first | apply zZ | apply y5)
             · rfl
             · simp only [za, z0, Nat.reduceLT, decide_true, cond_true, ins]
               rfl)
          | (apply zY
             · simp only [z6, get, z5, Nat.reduceEqDiff, decide_true, decide_false, cond_true, cond_false])
          | (apply zA
             · simp only [z6, get, z5, Nat.reduceEqDiff, decide_true, decide_false, cond_true, cond_false])
          | (apply yq
             · kernel_rfl
             · kernel_rfl)
          | (simp only [bW, if_true, Nat.reduceEqDiff, if_false])
        refine w_loop (st1 := ⟨26, [(1, .lref 0 0 3 0), (13, I 0)], [(0, ⟨[yW p], 3, false⟩)], 1, 0⟩) lk48_5 (by kernel_rfl) ?_
        refine yw ?_
        try dsimp only [lp48_5, x8, yN, Tryd.f48]
        simp only [bW, if_true, Nat.reduceEqDiff, if_false]
        repeat' first
          | (intro hb; first | cases hb | skip)
          | ((first | apply zB | apply y7)
             · rfl
             · simp (disch := assumption) only [yx, z6, get, z5, z0, Nat.reduceEqDiff, decide_true, decide_false, cond_true, cond_false, yk, zr, zI, yg, zF, Bool.and_true, Bool.true_and, Bool.and_self, Bool.and_false, Bool.false_and, Bool.or_false, Bool.or_true, Bool.false_or, Bool.true_or, Bool.not_true, Bool.not_false, if_true, ye, List.length_cons, List.length_nil, yy, yb, z7, zu, zt, zl, List.getElem?_cons_zero, List.getElem?_cons_succ, Nat.reduceAdd, Nat.zero_add, Nat.add_zero, Nat.one_ne_zero, zT, zs, zp, yC, zG, bP, Ty.isAgg, yB, zX, zR, zm, yh, zh, zV, yj, zg, ofV, zQ, zS, Bool.false_eq_true, if_false, Nat.reduceLeDiff, Nat.reduceLT, List.take, List.drop, List.map_cons, List.map_nil, List.append_nil, List.nil_append, List.cons_append, List.set, unD, yf, snapAll, zy, yi, zJ, zj, yE, z8, zw, ym, zU, Int.toNat_natCast, Int.natCast_nonneg, Int.toNat_zero, Int.le_refl, Nat.reduceMul, Nat.zero_mul, Nat.mul_zero, yl, zc, zW, zq, zb, zf, yA, eqD, zo, zK, yp, zH, zk, Nat.le_refl, Array.toList_map, List.size_toArray, List.getElem?_toArray, Nat.sub_zero, List.length_append, Nat.mul_one, zv, yo, bO, bS, z9, ze, zC, List.replicate, zE, zD, y9, allOk, yu, y8, newRow, yM, List.isEmpty, Bool.not_false, Bool.not_true, decide_eq_true_eq, zM, zP, zO, zz, zx, yc, zi, Option.map_some, Option.map_none, Option.isNone, Option.isSome, Option.getD_none, Option.getD_some, yP, zN, zn, Int.reduceToNat, Int.reduceLE, Int.reduceLT, Int.reduceBNe, Int.reduceBEq, tys, cks, h0, whyD_one, pd_why, e1]
               rfl
             · simp only [zd, yF, yD, z0, z5, Nat.reduceLT, Nat.reduceEqDiff, decide_true, decide_false, cond_true, cond_false]
               rfl
             · rfl
             first
             | (apply y6
                · simp only [za, z0, Nat.reduceLT, decide_true, cond_true, ins]
                  rfl
                · simp only [za, z0, Nat.reduceLT, decide_true, cond_true, ins]
                  rfl)
             | (apply yt
                · simp only [za, z0, Nat.reduceLT, decide_true, cond_true, ins]
                  rfl))
          | ((first | apply zZ | apply y5)
             · rfl
             · simp only [za, z0, Nat.reduceLT, decide_true, cond_true, ins]
               rfl)
          | (apply zY
             · simp only [z6, get, z5, Nat.reduceEqDiff, decide_true, decide_false, cond_true, cond_false])
          | (apply zA
             · simp only [z6, get, z5, Nat.reduceEqDiff, decide_true, decide_false, cond_true, cond_false])
          | (apply yq
             · kernel_rfl
             · kernel_rfl)
          | (simp only [bW, if_true, Nat.reduceEqDiff, if_false])
        refine x7 (st1 := ⟨26, [(1, .lref 0 0 3 0), (13, I 1)], [(0, ⟨[yW p], 3, false⟩)], 1, 0⟩) lk48_5 (by kernel_rfl) ?_
        refine yw ?_
        try dsimp only [lp48_5, x8, yN, Tryd.f48]
        simp only [bW, if_true, Nat.reduceEqDiff, if_false]
        repeat' first
          | (intro hb; first | cases hb | skip)
          | ((first | apply zB | apply y7)
             · rfl
             · simp (disch := assumption) only [yx, z6, get, z5, z0, Nat.reduceEqDiff, decide_true, decide_false, cond_true, cond_false, yk, zr, zI, yg, zF, Bool.and_true, Bool.true_and, Bool.and_self, Bool.and_false, Bool.false_and, Bool.or_false, Bool.or_true, Bool.false_or, Bool.true_or, Bool.not_true, Bool.not_false, if_true, ye, List.length_cons, List.length_nil, yy, yb, z7, zu, zt, zl, List.getElem?_cons_zero, List.getElem?_cons_succ, Nat.reduceAdd, Nat.zero_add, Nat.add_zero, Nat.one_ne_zero, zT, zs, zp, yC, zG, bP, Ty.isAgg, yB, zX, zR, zm, yh, zh, zV, yj, zg, ofV, zQ, zS, Bool.false_eq_true, if_false, Nat.reduceLeDiff, Nat.reduceLT, List.take, List.drop, List.map_cons, List.map_nil, List.append_nil, List.nil_append, List.cons_append, List.set, unD, yf, snapAll, zy, yi, zJ, zj, yE, z8, zw, ym, zU, Int.toNat_natCast, Int.natCast_nonneg, Int.toNat_zero, Int.le_refl, Nat.reduceMul, Nat.zero_mul, Nat.mul_zero, yl, zc, zW, zq, zb, zf, yA, eqD, zo, zK, yp, zH, zk, Nat.le_refl, Array.toList_map, List.size_toArray, List.getElem?_toArray, Nat.sub_zero, List.length_append, Nat.mul_one, zv, yo, bO, bS, z9, ze, zC, List.replicate, zE, zD, y9, allOk, yu, y8, newRow, yM, List.isEmpty, Bool.not_false, Bool.not_true, decide_eq_true_eq, zM, zP, zO, zz, zx, yc, zi, Option.map_some, Option.map_none, Option.isNone, Option.isSome, Option.getD_none, Option.getD_some, yP, zN, zn, Int.reduceToNat, Int.reduceLE, Int.reduceLT, Int.reduceBNe, Int.reduceBEq, tys, cks, h1, whyD_one, pd_why, e2]
               rfl
             · simp only [zd, yF, yD, z0, z5, Nat.reduceLT, Nat.reduceEqDiff, decide_true, decide_false, cond_true, cond_false]
               rfl
             · rfl
             first
             | (apply y6
                · simp only [za, z0, Nat.reduceLT, decide_true, cond_true, ins]
                  rfl
                · simp only [za, z0, Nat.reduceLT, decide_true, cond_true, ins]
                  rfl)
             | (apply yt
                · simp only [za, z0, Nat.reduceLT, decide_true, cond_true, ins]
                  rfl))
          | ((first | apply zZ | apply y5)
             · rfl
             · simp only [za, z0, Nat.reduceLT, decide_true, cond_true, ins]
               rfl)
          | (apply zY
             · simp only [z6, get, z5, Nat.reduceEqDiff, decide_true, decide_false, cond_true, cond_false])
          | (apply zA
             · simp only [z6, get, z5, Nat.reduceEqDiff, decide_true, decide_false, cond_true, cond_false])
          | (apply yq
             · kernel_rfl
             · kernel_rfl)
          | (simp only [bW, if_true, Nat.reduceEqDiff, if_false])
        refine x7 (st1 := ⟨26, [(1, .lref 0 0 3 0), (13, I 2)], [(0, ⟨[yW p], 3, false⟩)], 1, 0⟩) lk48_5 (by kernel_rfl) ?_
        refine yw ?_
        try dsimp only [lp48_5, x8, yN, Tryd.f48]
        simp only [bW, if_true, Nat.reduceEqDiff, if_false]
        repeat' first
          | (intro hb; first | cases hb | skip)
          | ((first | apply zB | apply y7)
             · rfl
             · simp (disch := assumption) only [yx, z6, get, z5, z0, Nat.reduceEqDiff, decide_true, decide_false, cond_true, cond_false, yk, zr, zI, yg, zF, Bool.and_true, Bool.true_and, Bool.and_self, Bool.and_false, Bool.false_and, Bool.or_false, Bool.or_true, Bool.false_or, Bool.true_or, Bool.not_true, Bool.not_false, if_true, ye, List.length_cons, List.length_nil, yy, yb, z7, zu, zt, zl, List.getElem?_cons_zero, List.getElem?_cons_succ, Nat.reduceAdd, Nat.zero_add, Nat.add_zero, Nat.one_ne_zero, zT, zs, zp, yC, zG, bP, Ty.isAgg, yB, zX, zR, zm, yh, zh, zV, yj, zg, ofV, zQ, zS, Bool.false_eq_true, if_false, Nat.reduceLeDiff, Nat.reduceLT, List.take, List.drop, List.map_cons, List.map_nil, List.append_nil, List.nil_append, List.cons_append, List.set, unD, yf, snapAll, zy, yi, zJ, zj, yE, z8, zw, ym, zU, Int.toNat_natCast, Int.natCast_nonneg, Int.toNat_zero, Int.le_refl, Nat.reduceMul, Nat.zero_mul, Nat.mul_zero, yl, zc, zW, zq, zb, zf, yA, eqD, zo, zK, yp, zH, zk, Nat.le_refl, Array.toList_map, List.size_toArray, List.getElem?_toArray, Nat.sub_zero, List.length_append, Nat.mul_one, zv, yo, bO, bS, z9, ze, zC, List.replicate, zE, zD, y9, allOk, yu, y8, newRow, yM, List.isEmpty, Bool.not_false, Bool.not_true, decide_eq_true_eq, zM, zP, zO, zz, zx, yc, zi, Option.map_some, Option.map_none, Option.isNone, Option.isSome, Option.getD_none, Option.getD_some, yP, zN, zn, Int.reduceToNat, Int.reduceLE, Int.reduceLT, Int.reduceBNe, Int.reduceBEq, tys, cks, h1, whyD_one, pd_why, e2]
               rfl
             · simp only [zd, yF, yD, z0, z5, Nat.reduceLT, Nat.reduceEqDiff, decide_true, decide_false, cond_true, cond_false]
               rfl
             · rfl
             first
             | (apply y6
                · simp only [za, z0, Nat.reduceLT, decide_true, cond_true, ins]
                  rfl
                · simp only [za, z0, Nat.reduceLT, decide_true, cond_true, ins]
                  rfl)
             | (apply yt
                · simp only [za, z0, Nat.reduceLT, decide_true, cond_true, ins]
                  rfl))
          | ((first | apply zZ | apply y5)
             · rfl
             · simp only [za, z0, Nat.reduceLT, decide_true, cond_true, ins]
               rfl)
          | (apply zY
             · simp only [z6, get, z5, Nat.reduceEqDiff, decide_true, decide_false, cond_true, cond_false])
          | (apply zA
             · simp only [z6, get, z5, Nat.reduceEqDiff, decide_true, decide_false, cond_true, cond_false])
          | (apply yq
             · kernel_rfl
             · kernel_rfl)
          | (simp only [bW, if_true, Nat.reduceEqDiff, if_false])
        subst hF
        simp only [xf, finF, yI, yX, zl, get, zG, z5, Nat.reduceEqDiff, decide_true, decide_false, cond_true, cond_false, yV, snapAll, zy, List.getElem?_cons_zero, List.getElem?_cons_succ, bP, Ty.isAgg, if_true, if_false, Bool.false_eq_true, Nat.zero_add, Nat.add_zero, List.length_cons, List.length_nil, Nat.reduceAdd, Nat.reduceLeDiff, List.take, List.drop, Bool.true_and, Bool.and_self, Nat.le_refl, List.map_cons, List.length_map, List.append_nil, List.nil_append, List.cons_append, Nat.sub_zero, bO, bS, tys, Tryd.f48, snap_whyD]
theorem t49 (p : Paper) (s ax : Int) (g : Bool) (hwf : p.wf) : (lim cfg).pure 49 [yW p, I s, I ax, B g] = some (if knownF p ax [s] = 0 then .tup [whyD (if g then downF p s ax else upF p s ax).why, I 0] else .tup [.sl true [] 0 none, I (knownF p ax [s])]) := by
  have h71 := t71 p ax false [s] hwf 1 (by simp) (by simp) (by simp)
  simp only [List.map_cons, List.map_nil] at h71
  by_cases hk : knownF p ax [s] = 0
  · rw [if_pos hk]
    rw [hk] at h71
    obtain ⟨hok, hp, hs, hax⟩ := known_zero.1 hk
    simp at hs
    have h100 := t100 p s ax hwf hok hs
    have h101 := t101 p s ax hwf hok hs
    simp only [yz] at h100 h101
    cases g with
    | true =>
      refine yR (yG 49) cfn49 rfl (n := 34) rfl ?_
      simp only [bW, if_true, Nat.reduceEqDiff, if_false, yJ]
      repeat' first
        | (intro hb; first | cases hb | skip)
        | ((first | apply zB | apply y7)
           · rfl
           · simp (disch := assumption) only [yx, z6, get, z5, z0, Nat.reduceEqDiff, decide_true, decide_false, cond_true, cond_false, yk, zr, zI, yg, zF, Bool.and_true, Bool.true_and, Bool.and_self, Bool.and_false, Bool.false_and, Bool.or_false, Bool.or_true, Bool.false_or, Bool.true_or, Bool.not_true, Bool.not_false, if_true, ye, List.length_cons, List.length_nil, yy, yb, z7, zu, zt, zl, List.getElem?_cons_zero, List.getElem?_cons_succ, Nat.reduceAdd, Nat.zero_add, Nat.add_zero, Nat.one_ne_zero, zT, zs, zp, yC, zG, bP, Ty.isAgg, yB, zX, zR, zm, yh, zh, zV, yj, zg, ofV, zQ, zS, Bool.false_eq_true, if_false, Nat.reduceLeDiff, Nat.reduceLT, List.take, List.drop, List.map_cons, List.map_nil, List.append_nil, List.nil_append, List.cons_append, List.set, unD, yf, snapAll, zy, yi, zJ, zj, yE, z8, zw, ym, zU, Int.toNat_natCast, Int.natCast_nonneg, Int.toNat_zero, Int.le_refl, Nat.reduceMul, Nat.zero_mul, Nat.mul_zero, yl, zc, zW, zq, zb, zf, yA, eqD, zo, zK, yp, zH, zk, Nat.le_refl, Array.toList_map, List.size_toArray, List.getElem?_toArray, Nat.sub_zero, List.length_append, Nat.mul_one, zv, yo, bO, bS, z9, ze, zC, List.replicate, zE, zD, y9, allOk, yu, y8, newRow, yM, List.isEmpty, Bool.not_false, Bool.not_true, decide_eq_true_eq, zM, zP, zO, zz, zx, yc, zi, Option.map_some, Option.map_none, Option.isNone, Option.isSome, Option.getD_none, Option.getD_some, yP, zN, zn, Int.reduceToNat, Int.reduceLE, Int.reduceLT, Int.reduceBNe, Int.reduceBEq, tys, cks, h71, h100, h101, whyD_one, pd_why]
             rfl
           · simp only [zd, yF, yD, z0, z5, Nat.reduceLT, Nat.reduceEqDiff, decide_true, decide_false, cond_true, cond_false]
             rfl
           · rfl
           first
           | (apply y6
              · simp only [za, z0, Nat.reduceLT, decide_true, cond_true, ins]
                rfl
              · simp only [za, z0, Nat.reduceLT, decide_true, cond_true, ins]
                rfl)
           | (apply yt
              · simp only [za, z0, Nat.reduceLT, decide_true, cond_true, ins]
                rfl))
        | ((first | apply zZ | apply y5)
           · rfl
           · simp only [za, z0, Nat.reduceLT, decide_true, cond_true, ins]
             rfl)
        | (apply zY
           · simp only [z6, get, z5, Nat.reduceEqDiff, decide_true, decide_false, cond_true, cond_false])
        | (apply zA
           · simp only [z6, get, z5, Nat.reduceEqDiff, decide_true, decide_false, cond_true, cond_false])
        | (apply yq
           · kernel_rfl
           · kernel_rfl)
        | (simp only [bW, if_true, Nat.reduceEqDiff, if_false])
      all_goals simp only [xf, finF, yI, yX, zl, get, zG, z5, Nat.reduceEqDiff, decide_true, decide_false, cond_true, cond_false, yV, snapAll, zy, List.getElem?_cons_zero, List.getElem?_cons_succ, bP, Ty.isAgg, if_true, if_false, Bool.false_eq_true, Nat.zero_add, Nat.add_zero, List.length_cons, List.length_nil, Nat.reduceAdd, Nat.reduceLeDiff, List.take, List.drop, Bool.true_and, Bool.and_self, Nat.le_refl, List.map_cons, List.length_map, List.append_nil, List.nil_append, List.cons_append, Nat.sub_zero, bO, bS, tys, Tryd.f49, snap_whyD]
    | false =>
      refine yR (yG 49) cfn49 rfl (n := 34) rfl ?_
      simp only [bW, if_true, Nat.reduceEqDiff, if_false, yJ]
      repeat' first
        | (intro hb; first | cases hb | skip)
        | ((first | apply zB | apply y7)
           · rfl
           · simp (disch := assumption) only [yx, z6, get, z5, z0, Nat.reduceEqDiff, decide_true, decide_false, cond_true, cond_false, yk, zr, zI, yg, zF, Bool.and_true, Bool.true_and, Bool.and_self, Bool.and_false, Bool.false_and, Bool.or_false, Bool.or_true, Bool.false_or, Bool.true_or, Bool.not_true, Bool.not_false, if_true, ye, List.length_cons, List.length_nil, yy, yb, z7, zu, zt, zl, List.getElem?_cons_zero, List.getElem?_cons_succ, Nat.reduceAdd, Nat.zero_add, Nat.add_zero, Nat.one_ne_zero, zT, zs, zp, yC, zG, bP, Ty.isAgg, yB, zX, zR, zm, yh, zh, zV, yj, zg, ofV, zQ, zS, Bool.false_eq_true, if_false, Nat.reduceLeDiff, Nat.reduceLT, List.take, List.drop, List.map_cons, List.map_nil, List.append_nil, List.nil_append, List.cons_append, List.set, unD, yf, snapAll, zy, yi, zJ, zj, yE, z8, zw, ym, zU, Int.toNat_natCast, Int.natCast_nonneg, Int.toNat_zero, Int.le_refl, Nat.reduceMul, Nat.zero_mul, Nat.mul_zero, yl, zc, zW, zq, zb, zf, yA, eqD, zo, zK, yp, zH, zk, Nat.le_refl, Array.toList_map, List.size_toArray, List.getElem?_toArray, Nat.sub_zero, List.length_append, Nat.mul_one, zv, yo, bO, bS, z9, ze, zC, List.replicate, zE, zD, y9, allOk, yu, y8, newRow, yM, List.isEmpty, Bool.not_false, Bool.not_true, decide_eq_true_eq, zM, zP, zO, zz, zx, yc, zi, Option.map_some, Option.map_none, Option.isNone, Option.isSome, Option.getD_none, Option.getD_some, yP, zN, zn, Int.reduceToNat, Int.reduceLE, Int.reduceLT, Int.reduceBNe, Int.reduceBEq, tys, cks, h71, h100, h101, whyD_one, pd_why]
             rfl
           · simp only [zd, yF, yD, z0, z5, Nat.reduceLT, Nat.reduceEqDiff, decide_true, decide_false, cond_true, cond_false]
             rfl
           · rfl
           first
           | (apply y6
              · simp only [za, z0, Nat.reduceLT, decide_true, cond_true, ins]
                rfl
              · simp only [za, z0, Nat.reduceLT, decide_true, cond_true, ins]
                rfl)
           | (apply yt
              · simp only [za, z0, Nat.reduceLT, decide_true, cond_true, ins]
                rfl))
        | ((first | apply zZ | apply y5)
           · rfl
           · simp only [za, z0, Nat.reduceLT, decide_true, cond_true, ins]
             rfl)
        | (apply zY
           · simp only [z6, get, z5, Nat.reduceEqDiff, decide_true, decide_false, cond_true, cond_false])
        | (apply zA
           · simp only [z6, get, z5, Nat.reduceEqDiff, decide_true, decide_false, cond_true, cond_false])
        | (apply yq
           · kernel_rfl
           · kernel_rfl)
        | (simp only [bW, if_true, Nat.reduceEqDiff, if_false])
      all_goals simp only [xf, finF, yI, yX, zl, get, zG, z5, Nat.reduceEqDiff, decide_true, decide_false, cond_true, cond_false, yV, snapAll, zy, List.getElem?_cons_zero, List.getElem?_cons_succ, bP, Ty.isAgg, if_true, if_false, Bool.false_eq_true, Nat.zero_add, Nat.add_zero, List.length_cons, List.length_nil, Nat.reduceAdd, Nat.reduceLeDiff, List.take, List.drop, Bool.true_and, Bool.and_self, Nat.le_refl, List.map_cons, List.length_map, List.append_nil, List.nil_append, List.cons_append, Nat.sub_zero, bO, bS, tys, Tryd.f49, snap_whyD]
  · rw [if_neg hk]
    have hne : (knownF p ax [s] != 0) = true := by simp [hk]
    refine yR (yG 49) cfn49 rfl (n := 34) rfl ?_
    simp only [bW, if_true, Nat.reduceEqDiff, if_false, yJ]
    repeat' first
      | (intro hb; first | cases hb | skip)
      | ((first | apply zB | apply y7)
         · rfl
         · simp (disch := assumption) only [yx, z6, get, z5, z0, Nat.reduceEqDiff, decide_true, decide_false, cond_true, cond_false, yk, zr, zI, yg, zF, Bool.and_true, Bool.true_and, Bool.and_self, Bool.and_false, Bool.false_and, Bool.or_false, Bool.or_true, Bool.false_or, Bool.true_or, Bool.not_true, Bool.not_false, if_true, ye, List.length_cons, List.length_nil, yy, yb, z7, zu, zt, zl, List.getElem?_cons_zero, List.getElem?_cons_succ, Nat.reduceAdd, Nat.zero_add, Nat.add_zero, Nat.one_ne_zero, zT, zs, zp, yC, zG, bP, Ty.isAgg, yB, zX, zR, zm, yh, zh, zV, yj, zg, ofV, zQ, zS, Bool.false_eq_true, if_false, Nat.reduceLeDiff, Nat.reduceLT, List.take, List.drop, List.map_cons, List.map_nil, List.append_nil, List.nil_append, List.cons_append, List.set, unD, yf, snapAll, zy, yi, zJ, zj, yE, z8, zw, ym, zU, Int.toNat_natCast, Int.natCast_nonneg, Int.toNat_zero, Int.le_refl, Nat.reduceMul, Nat.zero_mul, Nat.mul_zero, yl, zc, zW, zq, zb, zf, yA, eqD, zo, zK, yp, zH, zk, Nat.le_refl, Array.toList_map, List.size_toArray, List.getElem?_toArray, Nat.sub_zero, List.length_append, Nat.mul_one, zv, yo, bO, bS, z9, ze, zC, List.replicate, zE, zD, y9, allOk, yu, y8, newRow, yM, List.isEmpty, Bool.not_false, Bool.not_true, decide_eq_true_eq, zM, zP, zO, zz, zx, yc, zi, Option.map_some, Option.map_none, Option.isNone, Option.isSome, Option.getD_none, Option.getD_some, yP, zN, zn, Int.reduceToNat, Int.reduceLE, Int.reduceLT, Int.reduceBNe, Int.reduceBEq, tys, cks, h71, hne]
           rfl
         · simp only [zd, yF, yD, z0, z5, Nat.reduceLT, Nat.reduceEqDiff, decide_true, decide_false, cond_true, cond_false]
           rfl
         · rfl
         first
         | (apply y6
            · simp only [za, z0, Nat.reduceLT, decide_true, cond_true, ins]
              rfl
            · simp only [za, z0, Nat.reduceLT, decide_true, cond_true, ins]
              rfl)
         | (apply yt
            · simp only [za, z0, Nat.reduceLT, decide_true, cond_true, ins]
              rfl))
      | ((first | apply zZ | apply y5)
         · rfl
         · simp only [za, z0, Nat.reduceLT, decide_true, cond_true, ins]
           rfl)
      | (apply zY
         · simp only [z6, get, z5, Nat.reduceEqDiff, decide_true, decide_false, cond_true, cond_false])
      | (apply zA
         · simp only [z6, get, z5, Nat.reduceEqDiff, decide_true, decide_false, cond_true, cond_false])
      | (apply yq
         · kernel_rfl
         · kernel_rfl)
      | (simp only [bW, if_true, Nat.reduceEqDiff, if_false])
    all_goals try simp only [xf, finF, yI, yX, zl, get, zG, z5, Nat.reduceEqDiff, decide_true, decide_false, cond_true, cond_false, yV, snapAll, zy, List.getElem?_cons_zero, List.getElem?_cons_succ, bP, Ty.isAgg, if_true, if_false, Bool.false_eq_true, Nat.zero_add, Nat.add_zero, List.length_cons, List.length_nil, Nat.reduceAdd, Nat.reduceLeDiff, List.take, List.drop, Bool.true_and, Bool.and_self, Nat.le_refl, List.map_cons, List.length_map, List.append_nil, List.nil_append, List.cons_append, Nat.sub_zero, bO, bS, tys, Tryd.f49]
    all_goals first | done | rfl | (simp_all []; done) | trace_state


def eqW (x y : Reason) : Bool := (x.join == y.join) && ((x.at_ == y.at_) && (x.back == y.back))
def eqWs : List Reason → List Reason → Bool
  | [], [] => true
  | x :: a, y :: b => eqW x y && eqWs a b
  | _, _ => false
theorem L57_4 {F : Exit → St → Option D} (na nb : Bool) (sa sb : Nat) (a b : List Reason) (k : List Kt) (x : D) (hla : a.length ≤ 9223372036854775807) (hlen : a.length = b.length) (hna' : na = true → a = []) (hnb' : nb = true → b = []) (hsa : na = false → sa = 3) (hsb : nb = false → sb = 3) (hk : ∀ st, get st.tmps 4 = B false → yZ cfg (lim cfg) 57 F k .ret st = some (B false)) : ∀ (ra rb : List Reason) (i : Nat), a.drop i = ra → b.drop i = rb → i ≤ a.length →
    (eqWs ra rb = true → yZ cfg (lim cfg) 57 F k (.exit 0) ⟨26, [(14, B false), (0, .sl na (a.map encW) sa none), (1, .sl nb (b.map encW) sb none), (12, I a.length), (13, I (a.length : Nat))], [], 0, 0⟩ = some x) →
    (eqWs ra rb = false → x = B false) →
    EvL cfg (lim cfg) 57 F lp57_4 k ⟨26, [(0, .sl na (a.map encW) sa none), (1, .sl nb (b.map encW) sb none), (12, I a.length), (13, I (i : Nat))], [], 0, 0⟩ = some x := by
  intro ra
  induction ra with
  | nil =>
    intro rb i hd hdb hi h h'
    have hi' : i = a.length := by
      have := List.drop_eq_nil_iff.1 hd
      omega
    subst hi'
    have hrb : rb = [] := by rw [← hdb, List.drop_eq_nil_of_le (Nat.le_of_eq hlen.symm)]
    subst hrb
    refine yw ?_
    try dsimp only [lp57_4, x8, yN, Tryd.f57]
    simp only [bW, if_true, Nat.reduceEqDiff, if_false]
    repeat' first
      | (intro hb; first | cases hb | skip)
      | ((first | apply zB | apply y7)
         · rfl
         · simp (disch := assumption) only [yx, z6, get, z5, z0, Nat.reduceEqDiff, decide_true, decide_false, cond_true, cond_false, yk, zr, zI, yg, zF, Bool.and_true, Bool.true_and, Bool.and_self, Bool.and_false, Bool.false_and, Bool.or_false, Bool.or_true, Bool.false_or, Bool.true_or, Bool.not_true, Bool.not_false, if_true, ye, List.length_cons, List.length_nil, yy, yb, z7, zu, zt, zl, List.getElem?_cons_zero, List.getElem?_cons_succ, Nat.reduceAdd, Nat.zero_add, Nat.add_zero, Nat.one_ne_zero, zT, zs, zp, yC, zG, bP, Ty.isAgg, yB, zX, zR, zm, yh, zh, zV, yj, zg, ofV, zQ, zS, Bool.false_eq_true, if_false, Nat.reduceLeDiff, Nat.reduceLT, List.take, List.drop, List.map_cons, List.map_nil, List.append_nil, List.nil_append, List.cons_append, List.set, unD, yf, snapAll, zy, yi, zJ, zj, yE, z8, zw, ym, zU, Int.toNat_natCast, Int.natCast_nonneg, Int.toNat_zero, Int.le_refl, Nat.reduceMul, Nat.zero_mul, Nat.mul_zero, yl, zc, zW, zq, zb, zf, yA, eqD, zo, zK, yp, zH, zk, Nat.le_refl, Array.toList_map, List.size_toArray, List.getElem?_toArray, Nat.sub_zero, List.length_append, Nat.mul_one, zv, yo, bO, bS, z9, ze, zC, List.replicate, zE, zD, y9, allOk, yu, y8, newRow, yM, List.isEmpty, Bool.not_false, Bool.not_true, decide_eq_true_eq, zM, zP, zO, zz, zx, yc, zi, Option.map_some, Option.map_none, Option.isNone, Option.isSome, Option.getD_none, Option.getD_some, yP, zN, zn, Int.reduceToNat, Int.reduceLE, Int.reduceLT, Int.reduceBNe, Int.reduceBEq, tys, cks, Int.lt_irrefl, decide_false]
           rfl
         · simp only [zd, yF, yD, z0, z5, Nat.reduceLT, Nat.reduceEqDiff, decide_true, decide_false, cond_true, cond_false]
           rfl
         · rfl
         first
         | (apply y6
            · simp only [za, z0, Nat.reduceLT, decide_true, cond_true, ins]
              rfl
            · simp only [za, z0, Nat.reduceLT, decide_true, cond_true, ins]
              rfl)
         | (apply yt
            · simp only [za, z0, Nat.reduceLT, decide_true, cond_true, ins]
              rfl))
      | ((first | apply zZ | apply y5)
         · rfl
         · simp only [za, z0, Nat.reduceLT, decide_true, cond_true, ins]
           rfl)
      | (apply zY
         · simp only [z6, get, z5, Nat.reduceEqDiff, decide_true, decide_false, cond_true, cond_false])
      | (apply zA
         · simp only [z6, get, z5, Nat.reduceEqDiff, decide_true, decide_false, cond_true, cond_false])
      | (apply yq
         · kernel_rfl
         · kernel_rfl)
      | (simp only [bW, if_true, Nat.reduceEqDiff, if_false])
    exact h rfl
  | cons m ra ih =>
    intro rb i hd hdb hi h h'
    have hlt : i < a.length := by
      rcases Nat.lt_or_ge i a.length with h | h
      · exact h
      · rw [List.drop_eq_nil_of_le h] at hd; cases hd
    obtain ⟨m', rb', hrb⟩ : ∃ m' rb', rb = m' :: rb' := by
      cases rb with
      | nil => exact absurd (List.drop_eq_nil_iff.1 hdb) (by omega)
      | cons y r => exact ⟨y, r, rfl⟩
    subst hrb
    have hm : a[i]? = some m := by rw [← List.head?_drop, hd]; rfl
    have hmb : b[i]? = some m' := by rw [← List.head?_drop, hdb]; rfl
    have hxa : (a.map encW)[i]? = some (.agg [B m.join, I m.at_, B m.back]) := by rw [List.getElem?_map, hm]; rfl
    have hxb : (b.map encW)[i]? = some (.agg [B m'.join, I m'.at_, B m'.back]) := by rw [List.getElem?_map, hmb]; rfl
    have hna : na = false := by
      cases h : na with
      | false => rfl
      | true => rw [hna' h] at hlt; cases hlt
    have hnb : nb = false := by
      cases h : nb with
      | false => rfl
      | true => rw [hnb' h, List.length_nil] at hlen; omega
    have hsa1 := hsa hna
    have hsb1 := hsb hnb
    clear hsa hsb
    subst hsa1 hsb1
    have hlt' : (i : Int) < (a.length : Int) := by omega
    have hw3 : IntKind.i64.wrap ((i : Int) + 1) = ((i + 1 : Nat) : Int) := by rw [wrap_i64 (by omega) (by omega)]; omega
    refine yw ?_
    try dsimp only [lp57_4, x8, yN, Tryd.f57]
    simp only [bW, if_true, Nat.reduceEqDiff, if_false]
    repeat' first
      | (intro hb; first | cases hb | skip)
      | ((first | apply zB | apply y7)
         · rfl
         · simp (disch := assumption) only [yx, z6, get, z5, z0, Nat.reduceEqDiff, decide_true, decide_false, cond_true, cond_false, yk, zr, zI, yg, zF, Bool.and_true, Bool.true_and, Bool.and_self, Bool.and_false, Bool.false_and, Bool.or_false, Bool.or_true, Bool.false_or, Bool.true_or, Bool.not_true, Bool.not_false, if_true, ye, List.length_cons, List.length_nil, yy, yb, z7, zu, zt, zl, List.getElem?_cons_zero, List.getElem?_cons_succ, Nat.reduceAdd, Nat.zero_add, Nat.add_zero, Nat.one_ne_zero, zT, zs, zp, yC, zG, bP, Ty.isAgg, yB, zX, zR, zm, yh, zh, zV, yj, zg, ofV, zQ, zS, Bool.false_eq_true, if_false, Nat.reduceLeDiff, Nat.reduceLT, List.take, List.drop, List.map_cons, List.map_nil, List.append_nil, List.nil_append, List.cons_append, List.set, unD, yf, snapAll, zy, yi, zJ, zj, yE, z8, zw, ym, zU, Int.toNat_natCast, Int.natCast_nonneg, Int.toNat_zero, Int.le_refl, Nat.reduceMul, Nat.zero_mul, Nat.mul_zero, yl, zc, zW, zq, zb, zf, yA, eqD, zo, zK, yp, zH, zk, Nat.le_refl, Array.toList_map, List.size_toArray, List.getElem?_toArray, Nat.sub_zero, List.length_append, Nat.mul_one, zv, yo, bO, bS, z9, ze, zC, List.replicate, zE, zD, y9, allOk, yu, y8, newRow, yM, List.isEmpty, Bool.not_false, Bool.not_true, decide_eq_true_eq, zM, zP, zO, zz, zx, yc, zi, Option.map_some, Option.map_none, Option.isNone, Option.isSome, Option.getD_none, Option.getD_some, yP, zN, zn, Int.reduceToNat, Int.reduceLE, Int.reduceLT, Int.reduceBNe, Int.reduceBEq, tys, cks, hxa, hxb, hna, hnb, hlt', hw3, Int.toNat_natCast]
           rfl
         · simp only [zd, yF, yD, z0, z5, Nat.reduceLT, Nat.reduceEqDiff, decide_true, decide_false, cond_true, cond_false]
           rfl
         · rfl
         first
         | (apply y6
            · simp only [za, z0, Nat.reduceLT, decide_true, cond_true, ins]
              rfl
            · simp only [za, z0, Nat.reduceLT, decide_true, cond_true, ins]
              rfl)
         | (apply yt
            · simp only [za, z0, Nat.reduceLT, decide_true, cond_true, ins]
              rfl))
      | ((first | apply zZ | apply y5)
         · rfl
         · simp only [za, z0, Nat.reduceLT, decide_true, cond_true, ins]
           rfl)
      | (apply zY
         · simp only [z6, get, z5, Nat.reduceEqDiff, decide_true, decide_false, cond_true, cond_false])
      | (apply zA
         · simp only [z6, get, z5, Nat.reduceEqDiff, decide_true, decide_false, cond_true, cond_false])
      | (apply yq
         · kernel_rfl
         · kernel_rfl)
      | (simp only [bW, if_true, Nat.reduceEqDiff, if_false])
    · rw [h' (by simp only [Bool.and_true, Bool.not_eq_true'] at hb; simp only [eqWs, eqW, hb, Bool.false_and])]
      exact hk _ rfl
    · have he : eqW m m' = true := by simp only [Bool.and_true, Bool.not_eq_false'] at hb; exact hb
      simp only [eqWs, he, Bool.true_and] at h h'
      exact x7 (st1 := ⟨26, [(0, .sl na (a.map encW) 3 none), (1, .sl nb (b.map encW) 3 none), (12, I a.length), (13, I (i + 1 : Nat))], [], 0, 0⟩) lk57_4 (by kernel_rfl) (ih rb' (i + 1) (by rw [← List.drop_drop, hd]; rfl) (by rw [← List.drop_drop, hdb]; rfl) hlt h h')
theorem t57 (na nb : Bool) (sa sb : Nat) (a b : List Reason) (hla : a.length ≤ 9223372036854775807) (hlb : b.length ≤ 9223372036854775807) (hna : na = true → a = []) (hnb : nb = true → b = []) (hsa : na = false → sa = 3) (hsb : nb = false → sb = 3) : (lim cfg).pure 57 [.sl na (a.map encW) sa none, .sl nb (b.map encW) sb none] = some (B (eqWs a b)) := by
  have ha := len_if (f := encW) hna
  have hb' := len_if (f := encW) hnb
  have hcast : ((a.length : Int) != (b.length : Int)) = !decide (a.length = b.length) := by
    by_cases h : a.length = b.length <;> simp [h]
    omega
  by_cases hl : a.length = b.length
  · have hd : decide (a.length = b.length) = true := by simp [hl]
    refine yR (yG 57) cfn57 rfl (n := 26) rfl ?_
    generalize hF : xf cfg Tryd.f57 = F
    simp only [bW, if_true, Nat.reduceEqDiff, if_false, yJ]
    repeat' first
      | (intro hb; first | cases hb | skip)
      | ((first | apply zB | apply y7)
         · rfl
         · simp (disch := assumption) only [yx, z6, get, z5, z0, Nat.reduceEqDiff, decide_true, decide_false, cond_true, cond_false, yk, zr, zI, yg, zF, Bool.and_true, Bool.true_and, Bool.and_self, Bool.and_false, Bool.false_and, Bool.or_false, Bool.or_true, Bool.false_or, Bool.true_or, Bool.not_true, Bool.not_false, if_true, ye, List.length_cons, List.length_nil, yy, yb, z7, zu, zt, zl, List.getElem?_cons_zero, List.getElem?_cons_succ, Nat.reduceAdd, Nat.zero_add, Nat.add_zero, Nat.one_ne_zero, zT, zs, zp, yC, zG, bP, Ty.isAgg, yB, zX, zR, zm, yh, zh, zV, yj, zg, ofV, zQ, zS, Bool.false_eq_true, if_false, Nat.reduceLeDiff, Nat.reduceLT, List.take, List.drop, List.map_cons, List.map_nil, List.append_nil, List.nil_append, List.cons_append, List.set, unD, yf, snapAll, zy, yi, zJ, zj, yE, z8, zw, ym, zU, Int.toNat_natCast, Int.natCast_nonneg, Int.toNat_zero, Int.le_refl, Nat.reduceMul, Nat.zero_mul, Nat.mul_zero, yl, zc, zW, zq, zb, zf, yA, eqD, zo, zK, yp, zH, zk, Nat.le_refl, Array.toList_map, List.size_toArray, List.getElem?_toArray, Nat.sub_zero, List.length_append, Nat.mul_one, zv, yo, bO, bS, z9, ze, zC, List.replicate, zE, zD, y9, allOk, yu, y8, newRow, yM, List.isEmpty, Bool.not_false, Bool.not_true, decide_eq_true_eq, zM, zP, zO, zz, zx, yc, zi, Option.map_some, Option.map_none, Option.isNone, Option.isSome, Option.getD_none, Option.getD_some, yP, zN, zn, Int.reduceToNat, Int.reduceLE, Int.reduceLT, Int.reduceBNe, Int.reduceBEq, tys, cks, ha, hb', hcast, hd]
           rfl
         · simp only [zd, yF, yD, z0, z5, Nat.reduceLT, Nat.reduceEqDiff, decide_true, decide_false, cond_true, cond_false]
           rfl
         · rfl
         first
         | (apply y6
            · simp only [za, z0, Nat.reduceLT, decide_true, cond_true, ins]
              rfl
            · simp only [za, z0, Nat.reduceLT, decide_true, cond_true, ins]
              rfl)
         | (apply yt
            · simp only [za, z0, Nat.reduceLT, decide_true, cond_true, ins]
              rfl))
      | ((first | apply zZ | apply y5)
         · rfl
         · simp only [za, z0, Nat.reduceLT, decide_true, cond_true, ins]
           rfl)
      | (apply zY
         · simp only [z6, get, z5, Nat.reduceEqDiff, decide_true, decide_false, cond_true, cond_false])
      | (apply zA
         · simp only [z6, get, z5, Nat.reduceEqDiff, decide_true, decide_false, cond_true, cond_false])
      | (apply yq
         · kernel_rfl
         · kernel_rfl)
      | (simp only [bW, if_true, Nat.reduceEqDiff, if_false])
    have hend : ∀ v st, get st.tmps 4 = B v → F .ret st = some (B v) := by
      intro v st hd
      subst hF
      simp only [xf, finF, yI, yX, zl, get, zG, z5, Nat.reduceEqDiff, decide_true, decide_false, cond_true, cond_false, yV, snapAll, zy, List.getElem?_cons_zero, List.getElem?_cons_succ, bP, Ty.isAgg, if_true, if_false, Bool.false_eq_true, Nat.zero_add, Nat.add_zero, List.length_cons, List.length_nil, Nat.reduceAdd, Nat.reduceLeDiff, List.take, List.drop, Bool.true_and, Bool.and_self, Nat.le_refl, List.map_cons, List.length_map, List.append_nil, List.nil_append, List.cons_append, Nat.sub_zero, bO, bS, tys, Tryd.f57, hd]
    refine w_loop (st1 := ⟨26, [(0, .sl na (a.map encW) sa none), (1, .sl nb (b.map encW) sb none), (12, I a.length), (13, I (0 : Nat))], [], 0, 0⟩) lk57_4 (by kernel_rfl) (L57_4 na nb sa sb a b _ _ hla hl hna hnb hsa hsb (fun st hd => ?_) a b 0 rfl rfl (Nat.zero_le _) (fun he => ?_) (fun he => by rw [he]))
    · simp only [bW, if_true, Nat.reduceEqDiff, if_false]
      exact hend false st hd
    · rw [he]
      simp only [bW, if_true, Nat.reduceEqDiff, if_false]
      repeat' first
        | (intro hb; first | cases hb | skip)
        | ((first | apply zB | apply y7)
           · rfl
           · simp (disch := assumption) only [yx, z6, get, z5, z0, Nat.reduceEqDiff, decide_true, decide_false, cond_true, cond_false, yk, zr, zI, yg, zF, Bool.and_true, Bool.true_and, Bool.and_self, Bool.and_false, Bool.false_and, Bool.or_false, Bool.or_true, Bool.false_or, Bool.true_or, Bool.not_true, Bool.not_false, if_true, ye, List.length_cons, List.length_nil, yy, yb, z7, zu, zt, zl, List.getElem?_cons_zero, List.getElem?_cons_succ, Nat.reduceAdd, Nat.zero_add, Nat.add_zero, Nat.one_ne_zero, zT, zs, zp, yC, zG, bP, Ty.isAgg, yB, zX, zR, zm, yh, zh, zV, yj, zg, ofV, zQ, zS, Bool.false_eq_true, if_false, Nat.reduceLeDiff, Nat.reduceLT, List.take, List.drop, List.map_cons, List.map_nil, List.append_nil, List.nil_append, List.cons_append, List.set, unD, yf, snapAll, zy, yi, zJ, zj, yE, z8, zw, ym, zU, Int.toNat_natCast, Int.natCast_nonneg, Int.toNat_zero, Int.le_refl, Nat.reduceMul, Nat.zero_mul, Nat.mul_zero, yl, zc, zW, zq, zb, zf, yA, eqD, zo, zK, yp, zH, zk, Nat.le_refl, Array.toList_map, List.size_toArray, List.getElem?_toArray, Nat.sub_zero, List.length_append, Nat.mul_one, zv, yo, bO, bS, z9, ze, zC, List.replicate, zE, zD, y9, allOk, yu, y8, newRow, yM, List.isEmpty, Bool.not_false, Bool.not_true, decide_eq_true_eq, zM, zP, zO, zz, zx, yc, zi, Option.map_some, Option.map_none, Option.isNone, Option.isSome, Option.getD_none, Option.getD_some, yP, zN, zn, Int.reduceToNat, Int.reduceLE, Int.reduceLT, Int.reduceBNe, Int.reduceBEq, tys, cks]
             rfl
           · simp only [zd, yF, yD, z0, z5, Nat.reduceLT, Nat.reduceEqDiff, decide_true, decide_false, cond_true, cond_false]
             rfl
           · rfl
           first
           | (apply y6
              · simp only [za, z0, Nat.reduceLT, decide_true, cond_true, ins]
                rfl
              · simp only [za, z0, Nat.reduceLT, decide_true, cond_true, ins]
                rfl)
           | (apply yt
              · simp only [za, z0, Nat.reduceLT, decide_true, cond_true, ins]
                rfl))
        | ((first | apply zZ | apply y5)
           · rfl
           · simp only [za, z0, Nat.reduceLT, decide_true, cond_true, ins]
             rfl)
        | (apply zY
           · simp only [z6, get, z5, Nat.reduceEqDiff, decide_true, decide_false, cond_true, cond_false])
        | (apply zA
           · simp only [z6, get, z5, Nat.reduceEqDiff, decide_true, decide_false, cond_true, cond_false])
        | (apply yq
           · kernel_rfl
           · kernel_rfl)
        | (simp only [bW, if_true, Nat.reduceEqDiff, if_false])
      exact hend true _ rfl
  · have hd : decide (a.length = b.length) = false := by simp [hl]
    have hf : eqWs a b = false := by
      have key : ∀ (a b : List Reason), eqWs a b = true → a.length = b.length := by
        intro a
        induction a with
        | nil => intro b h; cases b with
          | nil => rfl
          | cons y b => simp [eqWs] at h
        | cons y a ih => intro b h; cases b with
          | nil => simp [eqWs] at h
          | cons z b => simp [eqWs] at h; simp [ih b h.2]
      cases h : eqWs a b with
      | false => rfl
      | true => exact absurd (key a b h) hl
    rw [hf]
    refine yR (yG 57) cfn57 rfl (n := 26) rfl ?_
    simp only [bW, if_true, Nat.reduceEqDiff, if_false, yJ]
    repeat' first
      | (intro hb; first | cases hb | skip)
      | ((first | apply zB | apply y7)
         · rfl
         · simp (disch := assumption) only [yx, z6, get, z5, z0, Nat.reduceEqDiff, decide_true, decide_false, cond_true, cond_false, yk, zr, zI, yg, zF, Bool.and_true, Bool.true_and, Bool.and_self, Bool.and_false, Bool.false_and, Bool.or_false, Bool.or_true, Bool.false_or, Bool.true_or, Bool.not_true, Bool.not_false, if_true, ye, List.length_cons, List.length_nil, yy, yb, z7, zu, zt, zl, List.getElem?_cons_zero, List.getElem?_cons_succ, Nat.reduceAdd, Nat.zero_add, Nat.add_zero, Nat.one_ne_zero, zT, zs, zp, yC, zG, bP, Ty.isAgg, yB, zX, zR, zm, yh, zh, zV, yj, zg, ofV, zQ, zS, Bool.false_eq_true, if_false, Nat.reduceLeDiff, Nat.reduceLT, List.take, List.drop, List.map_cons, List.map_nil, List.append_nil, List.nil_append, List.cons_append, List.set, unD, yf, snapAll, zy, yi, zJ, zj, yE, z8, zw, ym, zU, Int.toNat_natCast, Int.natCast_nonneg, Int.toNat_zero, Int.le_refl, Nat.reduceMul, Nat.zero_mul, Nat.mul_zero, yl, zc, zW, zq, zb, zf, yA, eqD, zo, zK, yp, zH, zk, Nat.le_refl, Array.toList_map, List.size_toArray, List.getElem?_toArray, Nat.sub_zero, List.length_append, Nat.mul_one, zv, yo, bO, bS, z9, ze, zC, List.replicate, zE, zD, y9, allOk, yu, y8, newRow, yM, List.isEmpty, Bool.not_false, Bool.not_true, decide_eq_true_eq, zM, zP, zO, zz, zx, yc, zi, Option.map_some, Option.map_none, Option.isNone, Option.isSome, Option.getD_none, Option.getD_some, yP, zN, zn, Int.reduceToNat, Int.reduceLE, Int.reduceLT, Int.reduceBNe, Int.reduceBEq, tys, cks, ha, hb', hcast, hd]
           rfl
         · simp only [zd, yF, yD, z0, z5, Nat.reduceLT, Nat.reduceEqDiff, decide_true, decide_false, cond_true, cond_false]
           rfl
         · rfl
         first
         | (apply y6
            · simp only [za, z0, Nat.reduceLT, decide_true, cond_true, ins]
              rfl
            · simp only [za, z0, Nat.reduceLT, decide_true, cond_true, ins]
              rfl)
         | (apply yt
            · simp only [za, z0, Nat.reduceLT, decide_true, cond_true, ins]
              rfl))
      | ((first | apply zZ | apply y5)
         · rfl
         · simp only [za, z0, Nat.reduceLT, decide_true, cond_true, ins]
           rfl)
      | (apply zY
         · simp only [z6, get, z5, Nat.reduceEqDiff, decide_true, decide_false, cond_true, cond_false])
      | (apply zA
         · simp only [z6, get, z5, Nat.reduceEqDiff, decide_true, decide_false, cond_true, cond_false])
      | (apply yq
         · kernel_rfl
         · kernel_rfl)
      | (simp only [bW, if_true, Nat.reduceEqDiff, if_false])
    all_goals try simp only [xf, finF, yI, yX, zl, get, zG, z5, Nat.reduceEqDiff, decide_true, decide_false, cond_true, cond_false, yV, snapAll, zy, List.getElem?_cons_zero, List.getElem?_cons_succ, bP, Ty.isAgg, if_true, if_false, Bool.false_eq_true, Nat.zero_add, Nat.add_zero, List.length_cons, List.length_nil, Nat.reduceAdd, Nat.reduceLeDiff, List.take, List.drop, Bool.true_and, Bool.and_self, Nat.le_refl, List.map_cons, List.length_map, List.append_nil, List.nil_append, List.cons_append, Nat.sub_zero, bO, bS, tys, Tryd.f57]
    all_goals first | done | rfl | (simp_all []; done) | trace_state


end Go.VS
namespace Go.VS
open Go Go.Proofs
set_option maxHeartbeats 0
set_option linter.unusedSimpArgs false

noncomputable def lp18_7 : Code := x8 [1, 1, 1, 0, 1, 0, 0] (yN Tryd.f18)
theorem lk18_7 : cfg.keep 18 (yT lp18_7) = [2, 3, 24, 25, 26] := by kernel_rfl
noncomputable def lp18_13 : Code := x8 [1, 1, 1, 1, 0, 1, 0, 0] (yN Tryd.f18)
theorem lk18_13 : cfg.keep 18 (yT lp18_13) = [2, 3, 41] := by kernel_rfl
noncomputable def lp18_17 : Code := x8 [1, 1, 1, 1, 0, 1, 0, 0, 1, 1, 0, 0, 1, 1, 1, 0, 0] (yN Tryd.f18)
theorem lk18_17 : cfg.keep 18 (yT lp18_17) = [2, 3, 9, 41, 47, 48, 49] := by kernel_rfl

def axF (f : F4) (ax : Int) : Ratio := if ax = 0 then ⟨f.xn, f.xd⟩ else ⟨f.yn, f.yd⟩
def yQ (fs : List F4) (ax node : Int) : Ratio := if node = 0 then one1 else match fs[(node - 1).toNat]? with | some f => axF f ax | none => one1
def f4OK (f : F4) : Bool := ratioOK ⟨f.xn, f.xd⟩ && ratioOK ⟨f.yn, f.yd⟩
/-- What an edge asks of factors. -/
def edgeFine (fs : List F4) (ax : Int) (e : Edge) : Bool := decide ((yQ fs ax e.src).n * e.q.d * (yQ fs ax e.dst).d ≤ e.q.n * (yQ fs ax e.dst).n * (yQ fs ax e.src).d)
def factorsFine (p : Paper) (fs : List F4) (ax : Int) : Bool := (edges p ax).all (edgeFine fs ax)
def checkFF (p : Paper) (fs : List F4) : Int := if xc p then (if (fs.length : Int) = p.sheets ∧ fs.all f4OK = true then (if factorsFine p fs 0 && factorsFine p fs 1 then 0 else 31) else 1) else 30
theorem factor_ok {fs : List F4} {ax node : Int} (h : fs.all f4OK = true) : ratioOK (yQ fs ax node) = true := by
  unfold yQ
  split
  · rfl
  · split
    · rename_i f hf
      have := List.all_eq_true.1 h f (List.mem_of_getElem? hf)
      simp only [f4OK, Bool.and_eq_true] at this
      unfold axF
      split
      · exact this.1
      · exact this.2
    · rfl
theorem t66'' (n d : Int) : (lim cfg).pure 66 [.agg [I n, I d]] = some (B (ratioOK ⟨n, d⟩)) := t66 n d

theorem t67_0 (fs : List F4) (nf : Bool) (sf : Nat) (node : Int) (hnf : nf = true → fs = []) (hsf : nf = false → sf = 4) (h0 : 0 ≤ node) (h1 : node ≤ fs.length) (hl : fs.length ≤ 1000) : (lim cfg).pure 67 [I node, .ptr (.sl nf (fs.map xi) sf none), .ptr (I 0)] = some (encR (yQ fs 0 node)) := by
  by_cases hz : node = 0
  · have hb : (node == 0) = true := by simp [hz]
    rw [show yQ fs 0 node = one1 by simp [yQ, hz]]
    refine yR (yG 67) cfn67 rfl (n := 15) rfl ?_
    simp only [bW, if_true, Nat.reduceEqDiff, if_false, yJ]
    repeat' first
      | (intro hb; first | cases hb | skip)
      | ((first | apply zB | apply y7)
         · rfl
         · simp (disch := assumption) only [yx, z6, get, z5, z0, Nat.reduceEqDiff, decide_true, decide_false, cond_true, cond_false, yk, zr, zI, yg, zF, Bool.and_true, Bool.true_and, Bool.and_self, Bool.and_false, Bool.false_and, Bool.or_false, Bool.or_true, Bool.false_or, Bool.true_or, Bool.not_true, Bool.not_false, if_true, ye, List.length_cons, List.length_nil, yy, yb, z7, zu, zt, zl, List.getElem?_cons_zero, List.getElem?_cons_succ, Nat.reduceAdd, Nat.zero_add, Nat.add_zero, Nat.one_ne_zero, zT, zs, zp, yC, zG, bP, Ty.isAgg, yB, zX, zR, zm, yh, zh, zV, yj, zg, ofV, zQ, zS, Bool.false_eq_true, if_false, Nat.reduceLeDiff, Nat.reduceLT, List.take, List.drop, List.map_cons, List.map_nil, List.append_nil, List.nil_append, List.cons_append, List.set, unD, yf, snapAll, zy, yi, zJ, zj, yE, z8, zw, ym, zU, Int.toNat_natCast, Int.natCast_nonneg, Int.toNat_zero, Int.le_refl, Nat.reduceMul, Nat.zero_mul, Nat.mul_zero, yl, zc, zW, zq, zb, zf, yA, eqD, zo, zK, yp, zH, zk, Nat.le_refl, Array.toList_map, List.size_toArray, List.getElem?_toArray, Nat.sub_zero, List.length_append, Nat.mul_one, zv, yo, bO, bS, z9, ze, zC, List.replicate, zE, zD, y9, allOk, yu, y8, newRow, yM, List.isEmpty, Bool.not_false, Bool.not_true, decide_eq_true_eq, zM, zP, zO, zz, zx, yc, zi, Option.map_some, Option.map_none, Option.isNone, Option.isSome, Option.getD_none, Option.getD_some, yP, zN, zn, Int.reduceToNat, Int.reduceLE, Int.reduceLT, Int.reduceBNe, Int.reduceBEq, tys, cks, hb, cfg_glob0]
           rfl
         · simp only [zd, yF, yD, z0, z5, Nat.reduceLT, Nat.reduceEqDiff, decide_true, decide_false, cond_true, cond_false]
           rfl
         · rfl
         first
         | (apply y6
            · simp only [za, z0, Nat.reduceLT, decide_true, cond_true, ins]
              rfl
            · simp only [za, z0, Nat.reduceLT, decide_true, cond_true, ins]
              rfl)
         | (apply yt
            · simp only [za, z0, Nat.reduceLT, decide_true, cond_true, ins]
              rfl))
      | ((first | apply zZ | apply y5)
         · rfl
         · simp only [za, z0, Nat.reduceLT, decide_true, cond_true, ins]
           rfl)
      | (apply zY
         · simp only [z6, get, z5, Nat.reduceEqDiff, decide_true, decide_false, cond_true, cond_false])
      | (apply zA
         · simp only [z6, get, z5, Nat.reduceEqDiff, decide_true, decide_false, cond_true, cond_false])
      | (apply yq
         · kernel_rfl
         · kernel_rfl)
      | (simp only [bW, if_true, Nat.reduceEqDiff, if_false])
    all_goals try simp only [xf, finF, yI, yX, zl, get, zG, z5, Nat.reduceEqDiff, decide_true, decide_false, cond_true, cond_false, yV, snapAll, zy, List.getElem?_cons_zero, List.getElem?_cons_succ, bP, Ty.isAgg, if_true, if_false, Bool.false_eq_true, Nat.zero_add, Nat.add_zero, List.length_cons, List.length_nil, Nat.reduceAdd, Nat.reduceLeDiff, List.take, List.drop, Bool.true_and, Bool.and_self, Nat.le_refl, List.map_cons, List.length_map, List.append_nil, List.nil_append, List.cons_append, Nat.sub_zero, bO, bS, tys, Tryd.f67]
    all_goals first | done | rfl | (simp_all []; done) | trace_state
  · have hb : (node == 0) = false := by simp [hz]
    obtain ⟨N, hN⟩ := Int.eq_ofNat_of_zero_le (show 0 ≤ node - 1 by omega)
    have hw : IntKind.i64.wrap (node - 1) = (N : Int) := by rw [wrap_i64 (by omega) (by omega), hN]
    have hlt : N < fs.length := by omega
    have hnf' : nf = false := by
      cases h : nf with
      | false => rfl
      | true => rw [hnf h] at hlt; cases hlt
    have hs1 := hsf hnf'
    clear hsf
    subst hs1
    obtain ⟨f, hf⟩ : ∃ f, fs[N]? = some f := ⟨_, List.getElem?_eq_getElem hlt⟩
    have hx : (fs.map xi)[N]? = some (.agg [I f.xn, I f.xd, I f.yn, I f.yd]) := by rw [List.getElem?_map, hf]; rfl
    have e : yQ fs 0 node = axF f 0 := by
      unfold yQ
      rw [if_neg hz, show (node - 1).toNat = N by rw [hN]; rfl, hf]
    rw [e]
    refine yR (yG 67) cfn67 rfl (n := 15) rfl ?_
    simp only [bW, if_true, Nat.reduceEqDiff, if_false, yJ]
    repeat' first
      | (intro hb; first | cases hb | skip)
      | ((first | apply zB | apply y7)
         · rfl
         · simp (disch := assumption) only [yx, z6, get, z5, z0, Nat.reduceEqDiff, decide_true, decide_false, cond_true, cond_false, yk, zr, zI, yg, zF, Bool.and_true, Bool.true_and, Bool.and_self, Bool.and_false, Bool.false_and, Bool.or_false, Bool.or_true, Bool.false_or, Bool.true_or, Bool.not_true, Bool.not_false, if_true, ye, List.length_cons, List.length_nil, yy, yb, z7, zu, zt, zl, List.getElem?_cons_zero, List.getElem?_cons_succ, Nat.reduceAdd, Nat.zero_add, Nat.add_zero, Nat.one_ne_zero, zT, zs, zp, yC, zG, bP, Ty.isAgg, yB, zX, zR, zm, yh, zh, zV, yj, zg, ofV, zQ, zS, Bool.false_eq_true, if_false, Nat.reduceLeDiff, Nat.reduceLT, List.take, List.drop, List.map_cons, List.map_nil, List.append_nil, List.nil_append, List.cons_append, List.set, unD, yf, snapAll, zy, yi, zJ, zj, yE, z8, zw, ym, zU, Int.toNat_natCast, Int.natCast_nonneg, Int.toNat_zero, Int.le_refl, Nat.reduceMul, Nat.zero_mul, Nat.mul_zero, yl, zc, zW, zq, zb, zf, yA, eqD, zo, zK, yp, zH, zk, Nat.le_refl, Array.toList_map, List.size_toArray, List.getElem?_toArray, Nat.sub_zero, List.length_append, Nat.mul_one, zv, yo, bO, bS, z9, ze, zC, List.replicate, zE, zD, y9, allOk, yu, y8, newRow, yM, List.isEmpty, Bool.not_false, Bool.not_true, decide_eq_true_eq, zM, zP, zO, zz, zx, yc, zi, Option.map_some, Option.map_none, Option.isNone, Option.isSome, Option.getD_none, Option.getD_some, yP, zN, zn, Int.reduceToNat, Int.reduceLE, Int.reduceLT, Int.reduceBNe, Int.reduceBEq, tys, cks, hb, hw, hx, hnf', Int.toNat_natCast, Int.natCast_nonneg, Int.reduceToNat, Int.reduceLE, show (0 : Nat) < 2 from by decide, show (1 : Nat) < 2 from by decide]
           rfl
         · simp only [zd, yF, yD, z0, z5, Nat.reduceLT, Nat.reduceEqDiff, decide_true, decide_false, cond_true, cond_false]
           rfl
         · rfl
         first
         | (apply y6
            · simp only [za, z0, Nat.reduceLT, decide_true, cond_true, ins]
              rfl
            · simp only [za, z0, Nat.reduceLT, decide_true, cond_true, ins]
              rfl)
         | (apply yt
            · simp only [za, z0, Nat.reduceLT, decide_true, cond_true, ins]
              rfl))
      | ((first | apply zZ | apply y5)
         · rfl
         · simp only [za, z0, Nat.reduceLT, decide_true, cond_true, ins]
           rfl)
      | (apply zY
         · simp only [z6, get, z5, Nat.reduceEqDiff, decide_true, decide_false, cond_true, cond_false])
      | (apply zA
         · simp only [z6, get, z5, Nat.reduceEqDiff, decide_true, decide_false, cond_true, cond_false])
      | (apply yq
         · kernel_rfl
         · kernel_rfl)
      | (simp only [bW, if_true, Nat.reduceEqDiff, if_false])
    all_goals try simp only [xf, finF, yI, yX, zl, get, zG, z5, Nat.reduceEqDiff, decide_true, decide_false, cond_true, cond_false, yV, snapAll, zy, List.getElem?_cons_zero, List.getElem?_cons_succ, bP, Ty.isAgg, if_true, if_false, Bool.false_eq_true, Nat.zero_add, Nat.add_zero, List.length_cons, List.length_nil, Nat.reduceAdd, Nat.reduceLeDiff, List.take, List.drop, Bool.true_and, Bool.and_self, Nat.le_refl, List.map_cons, List.length_map, List.append_nil, List.nil_append, List.cons_append, Nat.sub_zero, bO, bS, tys, Tryd.f67, axF]
    all_goals first | done | rfl | (simp_all []; done) | trace_state

theorem t67_1 (fs : List F4) (nf : Bool) (sf : Nat) (node : Int) (hnf : nf = true → fs = []) (hsf : nf = false → sf = 4) (h0 : 0 ≤ node) (h1 : node ≤ fs.length) (hl : fs.length ≤ 1000) : (lim cfg).pure 67 [I node, .ptr (.sl nf (fs.map xi) sf none), .ptr (I 1)] = some (encR (yQ fs 1 node)) := by
  by_cases hz : node = 0
  · have hb : (node == 0) = true := by simp [hz]
    rw [show yQ fs 1 node = one1 by simp [yQ, hz]]
    refine yR (yG 67) cfn67 rfl (n := 15) rfl ?_
    simp only [bW, if_true, Nat.reduceEqDiff, if_false, yJ]
    repeat' first
      | (intro hb; first | cases hb | skip)
      | ((first | apply zB | apply y7)
         · rfl
         · simp (disch := assumption) only [yx, z6, get, z5, z0, Nat.reduceEqDiff, decide_true, decide_false, cond_true, cond_false, yk, zr, zI, yg, zF, Bool.and_true, Bool.true_and, Bool.and_self, Bool.and_false, Bool.false_and, Bool.or_false, Bool.or_true, Bool.false_or, Bool.true_or, Bool.not_true, Bool.not_false, if_true, ye, List.length_cons, List.length_nil, yy, yb, z7, zu, zt, zl, List.getElem?_cons_zero, List.getElem?_cons_succ, Nat.reduceAdd, Nat.zero_add, Nat.add_zero, Nat.one_ne_zero, zT, zs, zp, yC, zG, bP, Ty.isAgg, yB, zX, zR, zm, yh, zh, zV, yj, zg, ofV, zQ, zS, Bool.false_eq_true, if_false, Nat.reduceLeDiff, Nat.reduceLT, List.take, List.drop, List.map_cons, List.map_nil, List.append_nil, List.nil_append, List.cons_append, List.set, unD, yf, snapAll, zy, yi, zJ, zj, yE, z8, zw, ym, zU, Int.toNat_natCast, Int.natCast_nonneg, Int.toNat_zero, Int.le_refl, Nat.reduceMul, Nat.zero_mul, Nat.mul_zero, yl, zc, zW, zq, zb, zf, yA, eqD, zo, zK, yp, zH, zk, Nat.le_refl, Array.toList_map, List.size_toArray, List.getElem?_toArray, Nat.sub_zero, List.length_append, Nat.mul_one, zv, yo, bO, bS, z9, ze, zC, List.replicate, zE, zD, y9, allOk, yu, y8, newRow, yM, List.isEmpty, Bool.not_false, Bool.not_true, decide_eq_true_eq, zM, zP, zO, zz, zx, yc, zi, Option.map_some, Option.map_none, Option.isNone, Option.isSome, Option.getD_none, Option.getD_some, yP, zN, zn, Int.reduceToNat, Int.reduceLE, Int.reduceLT, Int.reduceBNe, Int.reduceBEq, tys, cks, hb, cfg_glob0]
           rfl
         · simp only [zd, yF, yD, z0, z5, Nat.reduceLT, Nat.reduceEqDiff, decide_true, decide_false, cond_true, cond_false]
           rfl
         · rfl
         first
         | (apply y6
            · simp only [za, z0, Nat.reduceLT, decide_true, cond_true, ins]
              rfl
            · simp only [za, z0, Nat.reduceLT, decide_true, cond_true, ins]
              rfl)
         | (apply yt
            · simp only [za, z0, Nat.reduceLT, decide_true, cond_true, ins]
              rfl))
      | ((first | apply zZ | apply y5)
         · rfl
         · simp only [za, z0, Nat.reduceLT, decide_true, cond_true, ins]
           rfl)
      | (apply zY
         · simp only [z6, get, z5, Nat.reduceEqDiff, decide_true, decide_false, cond_true, cond_false])
      | (apply zA
         · simp only [z6, get, z5, Nat.reduceEqDiff, decide_true, decide_false, cond_true, cond_false])
      | (apply yq
         · kernel_rfl
         · kernel_rfl)
      | (simp only [bW, if_true, Nat.reduceEqDiff, if_false])
    all_goals try simp only [xf, finF, yI, yX, zl, get, zG, z5, Nat.reduceEqDiff, decide_true, decide_false, cond_true, cond_false, yV, snapAll, zy, List.getElem?_cons_zero, List.getElem?_cons_succ, bP, Ty.isAgg, if_true, if_false, Bool.false_eq_true, Nat.zero_add, Nat.add_zero, List.length_cons, List.length_nil, Nat.reduceAdd, Nat.reduceLeDiff, List.take, List.drop, Bool.true_and, Bool.and_self, Nat.le_refl, List.map_cons, List.length_map, List.append_nil, List.nil_append, List.cons_append, Nat.sub_zero, bO, bS, tys, Tryd.f67]
    all_goals first | done | rfl | (simp_all []; done) | trace_state
  · have hb : (node == 0) = false := by simp [hz]
    obtain ⟨N, hN⟩ := Int.eq_ofNat_of_zero_le (show 0 ≤ node - 1 by omega)
    have hw : IntKind.i64.wrap (node - 1) = (N : Int) := by rw [wrap_i64 (by omega) (by omega), hN]
    have hlt : N < fs.length := by omega
    have hnf' : nf = false := by
      cases h : nf with
      | false => rfl
      | true => rw [hnf h] at hlt; cases hlt
    have hs1 := hsf hnf'
    clear hsf
    subst hs1
    obtain ⟨f, hf⟩ : ∃ f, fs[N]? = some f := ⟨_, List.getElem?_eq_getElem hlt⟩
    have hx : (fs.map xi)[N]? = some (.agg [I f.xn, I f.xd, I f.yn, I f.yd]) := by rw [List.getElem?_map, hf]; rfl
    have e : yQ fs 1 node = axF f 1 := by
      unfold yQ
      rw [if_neg hz, show (node - 1).toNat = N by rw [hN]; rfl, hf]
    rw [e]
    refine yR (yG 67) cfn67 rfl (n := 15) rfl ?_
    simp only [bW, if_true, Nat.reduceEqDiff, if_false, yJ]
    repeat' first
      | (intro hb; first | cases hb | skip)
      | ((first | apply zB | apply y7)
         · rfl
         · simp (disch := assumption) only [yx, z6, get, z5, z0, Nat.reduceEqDiff, decide_true, decide_false, cond_true, cond_false, yk, zr, zI, yg, zF, Bool.and_true, Bool.true_and, Bool.and_self, Bool.and_false, Bool.false_and, Bool.or_false, Bool.or_true, Bool.false_or, Bool.true_or, Bool.not_true, Bool.not_false, if_true, ye, List.length_cons, List.length_nil, yy, yb, z7, zu, zt, zl, List.getElem?_cons_zero, List.getElem?_cons_succ, Nat.reduceAdd, Nat.zero_add, Nat.add_zero, Nat.one_ne_zero, zT, zs, zp, yC, zG, bP, Ty.isAgg, yB, zX, zR, zm, yh, zh, zV, yj, zg, ofV, zQ, zS, Bool.false_eq_true, if_false, Nat.reduceLeDiff, Nat.reduceLT, List.take, List.drop, List.map_cons, List.map_nil, List.append_nil, List.nil_append, List.cons_append, List.set, unD, yf, snapAll, zy, yi, zJ, zj, yE, z8, zw, ym, zU, Int.toNat_natCast, Int.natCast_nonneg, Int.toNat_zero, Int.le_refl, Nat.reduceMul, Nat.zero_mul, Nat.mul_zero, yl, zc, zW, zq, zb, zf, yA, eqD, zo, zK, yp, zH, zk, Nat.le_refl, Array.toList_map, List.size_toArray, List.getElem?_toArray, Nat.sub_zero, List.length_append, Nat.mul_one, zv, yo, bO, bS, z9, ze, zC, List.replicate, zE, zD, y9, allOk, yu, y8, newRow, yM, List.isEmpty, Bool.not_false, Bool.not_true, decide_eq_true_eq, zM, zP, zO, zz, zx, yc, zi, Option.map_some, Option.map_none, Option.isNone, Option.isSome, Option.getD_none, Option.getD_some, yP, zN, zn, Int.reduceToNat, Int.reduceLE, Int.reduceLT, Int.reduceBNe, Int.reduceBEq, tys, cks, hb, hw, hx, hnf', Int.toNat_natCast, Int.natCast_nonneg, Int.reduceToNat, Int.reduceLE, show (0 : Nat) < 2 from by decide, show (1 : Nat) < 2 from by decide]
           rfl
         · simp only [zd, yF, yD, z0, z5, Nat.reduceLT, Nat.reduceEqDiff, decide_true, decide_false, cond_true, cond_false]
           rfl
         · rfl
         first
         | (apply y6
            · simp only [za, z0, Nat.reduceLT, decide_true, cond_true, ins]
              rfl
            · simp only [za, z0, Nat.reduceLT, decide_true, cond_true, ins]
              rfl)
         | (apply yt
            · simp only [za, z0, Nat.reduceLT, decide_true, cond_true, ins]
              rfl))
      | ((first | apply zZ | apply y5)
         · rfl
         · simp only [za, z0, Nat.reduceLT, decide_true, cond_true, ins]
           rfl)
      | (apply zY
         · simp only [z6, get, z5, Nat.reduceEqDiff, decide_true, decide_false, cond_true, cond_false])
      | (apply zA
         · simp only [z6, get, z5, Nat.reduceEqDiff, decide_true, decide_false, cond_true, cond_false])
      | (apply yq
         · kernel_rfl
         · kernel_rfl)
      | (simp only [bW, if_true, Nat.reduceEqDiff, if_false])
    all_goals try simp only [xf, finF, yI, yX, zl, get, zG, z5, Nat.reduceEqDiff, decide_true, decide_false, cond_true, cond_false, yV, snapAll, zy, List.getElem?_cons_zero, List.getElem?_cons_succ, bP, Ty.isAgg, if_true, if_false, Bool.false_eq_true, Nat.zero_add, Nat.add_zero, List.length_cons, List.length_nil, Nat.reduceAdd, Nat.reduceLeDiff, List.take, List.drop, Bool.true_and, Bool.and_self, Nat.le_refl, List.map_cons, List.length_map, List.append_nil, List.nil_append, List.cons_append, Nat.sub_zero, bO, bS, tys, Tryd.f67, axF]
    all_goals first | done | rfl | (simp_all []; done) | trace_state

theorem L18_7 {F : Exit → St → Option D} (p : Paper) (fs : List F4) (nf : Bool) (sf : Nat) (k : List Kt) (x : D) (hnf : nf = true → fs = []) (hsf : nf = false → sf = 4) (hl : fs.length ≤ 9223372036854775807) (hk : ∀ st, get st.tmps 4 = I 1 → yZ cfg (lim cfg) 18 F k .ret st = some (I 1)) : ∀ (rest : List F4) (i : Nat), fs.drop i = rest → i ≤ fs.length →
    (rest.all f4OK = true → yZ cfg (lim cfg) 18 F k (.exit 0) ⟨83, [(27, B false), (2, .lref 0 0 3 0), (3, .lref 1 0 1 0), (24, .sl nf (fs.map xi) sf none), (25, I fs.length), (26, I (fs.length : Nat))], [(0, ⟨[yW p], 3, false⟩), (1, ⟨[.sl nf (fs.map xi) sf none], 1, false⟩)], 2, 0⟩ = some x) →
    (rest.all f4OK = false → x = I 1) →
    EvL cfg (lim cfg) 18 F lp18_7 k ⟨83, [(2, .lref 0 0 3 0), (3, .lref 1 0 1 0), (24, .sl nf (fs.map xi) sf none), (25, I fs.length), (26, I (i : Nat))], [(0, ⟨[yW p], 3, false⟩), (1, ⟨[.sl nf (fs.map xi) sf none], 1, false⟩)], 2, 0⟩ = some x := by
  intro rest
  induction rest with
  | nil =>
    intro i hd hi h h'
    have hi' : i = fs.length := by
      have := List.drop_eq_nil_iff.1 hd
      omega
    subst hi'
    refine yw ?_
    try dsimp only [lp18_7, x8, yN, Tryd.f18]
    simp only [bW, if_true, Nat.reduceEqDiff, if_false]
    repeat' first
      | (intro hb; first | cases hb | skip)
      | ((first | apply zB | apply y7)
         · rfl
         · simp (disch := assumption) only [yx, z6, get, z5, z0, Nat.reduceEqDiff, decide_true, decide_false, cond_true, cond_false, yk, zr, zI, yg, zF, Bool.and_true, Bool.true_and, Bool.and_self, Bool.and_false, Bool.false_and, Bool.or_false, Bool.or_true, Bool.false_or, Bool.true_or, Bool.not_true, Bool.not_false, if_true, ye, List.length_cons, List.length_nil, yy, yb, z7, zu, zt, zl, List.getElem?_cons_zero, List.getElem?_cons_succ, Nat.reduceAdd, Nat.zero_add, Nat.add_zero, Nat.one_ne_zero, zT, zs, zp, yC, zG, bP, Ty.isAgg, yB, zX, zR, zm, yh, zh, zV, yj, zg, ofV, zQ, zS, Bool.false_eq_true, if_false, Nat.reduceLeDiff, Nat.reduceLT, List.take, List.drop, List.map_cons, List.map_nil, List.append_nil, List.nil_append, List.cons_append, List.set, unD, yf, snapAll, zy, yi, zJ, zj, yE, z8, zw, ym, zU, Int.toNat_natCast, Int.natCast_nonneg, Int.toNat_zero, Int.le_refl, Nat.reduceMul, Nat.zero_mul, Nat.mul_zero, yl, zc, zW, zq, zb, zf, yA, eqD, zo, zK, yp, zH, zk, Nat.le_refl, Array.toList_map, List.size_toArray, List.getElem?_toArray, Nat.sub_zero, List.length_append, Nat.mul_one, zv, yo, bO, bS, z9, ze, zC, List.replicate, zE, zD, y9, allOk, yu, y8, newRow, yM, List.isEmpty, Bool.not_false, Bool.not_true, decide_eq_true_eq, zM, zP, zO, zz, zx, yc, zi, Option.map_some, Option.map_none, Option.isNone, Option.isSome, Option.getD_none, Option.getD_some, yP, zN, zn, Int.reduceToNat, Int.reduceLE, Int.reduceLT, Int.reduceBNe, Int.reduceBEq, tys, cks, Int.lt_irrefl, decide_false]
           rfl
         · simp only [zd, yF, yD, z0, z5, Nat.reduceLT, Nat.reduceEqDiff, decide_true, decide_false, cond_true, cond_false]
           rfl
         · rfl
         first
         | (apply y6
            · simp only [za, z0, Nat.reduceLT, decide_true, cond_true, ins]
              rfl
            · simp only [za, z0, Nat.reduceLT, decide_true, cond_true, ins]
              rfl)
         | (apply yt
            · simp only [za, z0, Nat.reduceLT, decide_true, cond_true, ins]
              rfl))
      | ((first | apply zZ | apply y5)
         · rfl
         · simp only [za, z0, Nat.reduceLT, decide_true, cond_true, ins]
           rfl)
      | (apply zY
         · simp only [z6, get, z5, Nat.reduceEqDiff, decide_true, decide_false, cond_true, cond_false])
      | (apply zA
         · simp only [z6, get, z5, Nat.reduceEqDiff, decide_true, decide_false, cond_true, cond_false])
      | (apply yq
         · kernel_rfl
         · kernel_rfl)
      | (simp only [bW, if_true, Nat.reduceEqDiff, if_false])
    exact h rfl
  | cons f rest ih =>
    intro i hd hi h h'
    have hlt : i < fs.length := by
      rcases Nat.lt_or_ge i fs.length with h | h
      · exact h
      · rw [List.drop_eq_nil_of_le h] at hd; cases hd
    have hf : fs[i]? = some f := by rw [← List.head?_drop, hd]; rfl
    have hx : (fs.map xi)[i]? = some (.agg [I f.xn, I f.xd, I f.yn, I f.yd]) := by rw [List.getElem?_map, hf]; rfl
    have hnf' : nf = false := by
      cases h : nf with
      | false => rfl
      | true => rw [hnf h] at hlt; cases hlt
    have hs1 := hsf hnf'
    clear hsf
    subst hs1
    have hlt' : (i : Int) < (fs.length : Int) := by omega
    have hw3 : IntKind.i64.wrap ((i : Int) + 1) = ((i + 1 : Nat) : Int) := by rw [wrap_i64 (by omega) (by omega)]; omega
    refine yw ?_
    try dsimp only [lp18_7, x8, yN, Tryd.f18]
    simp only [bW, if_true, Nat.reduceEqDiff, if_false]
    repeat' first
      | (intro hb; first | cases hb | skip)
      | ((first | apply zB | apply y7)
         · rfl
         · simp (disch := assumption) only [yx, z6, get, z5, z0, Nat.reduceEqDiff, decide_true, decide_false, cond_true, cond_false, yk, zr, zI, yg, zF, Bool.and_true, Bool.true_and, Bool.and_self, Bool.and_false, Bool.false_and, Bool.or_false, Bool.or_true, Bool.false_or, Bool.true_or, Bool.not_true, Bool.not_false, if_true, ye, List.length_cons, List.length_nil, yy, yb, z7, zu, zt, zl, List.getElem?_cons_zero, List.getElem?_cons_succ, Nat.reduceAdd, Nat.zero_add, Nat.add_zero, Nat.one_ne_zero, zT, zs, zp, yC, zG, bP, Ty.isAgg, yB, zX, zR, zm, yh, zh, zV, yj, zg, ofV, zQ, zS, Bool.false_eq_true, if_false, Nat.reduceLeDiff, Nat.reduceLT, List.take, List.drop, List.map_cons, List.map_nil, List.append_nil, List.nil_append, List.cons_append, List.set, unD, yf, snapAll, zy, yi, zJ, zj, yE, z8, zw, ym, zU, Int.toNat_natCast, Int.natCast_nonneg, Int.toNat_zero, Int.le_refl, Nat.reduceMul, Nat.zero_mul, Nat.mul_zero, yl, zc, zW, zq, zb, zf, yA, eqD, zo, zK, yp, zH, zk, Nat.le_refl, Array.toList_map, List.size_toArray, List.getElem?_toArray, Nat.sub_zero, List.length_append, Nat.mul_one, zv, yo, bO, bS, z9, ze, zC, List.replicate, zE, zD, y9, allOk, yu, y8, newRow, yM, List.isEmpty, Bool.not_false, Bool.not_true, decide_eq_true_eq, zM, zP, zO, zz, zx, yc, zi, Option.map_some, Option.map_none, Option.isNone, Option.isSome, Option.getD_none, Option.getD_some, yP, zN, zn, Int.reduceToNat, Int.reduceLE, Int.reduceLT, Int.reduceBNe, Int.reduceBEq, tys, cks, hx, hnf', hlt', hw3, t66'', Int.toNat_natCast, Int.reduceToNat, Int.reduceLE, show (0 : Nat) < 2 from by decide, show (1 : Nat) < 2 from by decide]
           rfl
         · simp only [zd, yF, yD, z0, z5, Nat.reduceLT, Nat.reduceEqDiff, decide_true, decide_false, cond_true, cond_false]
           rfl
         · rfl
         first
         | (apply y6
            · simp only [za, z0, Nat.reduceLT, decide_true, cond_true, ins]
              rfl
            · simp only [za, z0, Nat.reduceLT, decide_true, cond_true, ins]
              rfl)
         | (apply yt
            · simp only [za, z0, Nat.reduceLT, decide_true, cond_true, ins]
              rfl))
      | ((first | apply zZ | apply y5)
         · rfl
         · simp only [za, z0, Nat.reduceLT, decide_true, cond_true, ins]
           rfl)
      | (apply zY
         · simp only [z6, get, z5, Nat.reduceEqDiff, decide_true, decide_false, cond_true, cond_false])
      | (apply zA
         · simp only [z6, get, z5, Nat.reduceEqDiff, decide_true, decide_false, cond_true, cond_false])
      | (apply yq
         · kernel_rfl
         · kernel_rfl)
      | (simp only [bW, if_true, Nat.reduceEqDiff, if_false])
    all_goals first
    | (have hx0 := h' (by simp_all [f4OK])
       rw [hx0]; exact hk _ rfl)
    | exact x7 (st1 := ⟨83, [(2, .lref 0 0 3 0), (3, .lref 1 0 1 0), (24, .sl nf (fs.map xi) 4 none), (25, I fs.length), (26, I (i + 1 : Nat))], [(0, ⟨[yW p], 3, false⟩), (1, ⟨[.sl nf (fs.map xi) 4 none], 1, false⟩)], 2, 0⟩) lk18_7 (by kernel_rfl) (ih (i + 1) (by rw [← List.drop_drop, hd]; rfl) hlt (fun ha => h (by simp_all [f4OK])) (fun ha => h' (by simp_all [f4OK])))
theorem edges_sheets {p : Paper} (hok : xc p = true) (ax : Int) : ∀ e ∈ edges p ax, 0 ≤ e.src ∧ e.src ≤ p.sheets ∧ 0 ≤ e.dst ∧ e.dst ≤ p.sheets := by
  obtain ⟨o1, o2, o3, o4, o5, o6⟩ := paperOK_def hok
  intro e he
  simp only [edges, List.mem_append, List.mem_flatMap, List.mem_range'_1] at he
  rcases he with (⟨i, hi, he⟩ | he) | he
  · simp [sheetE] at he
    rcases he with rfl | rfl <;> simp only [] <;> omega
  · obtain ⟨m, k, h1, _, h2⟩ := marksE_mem ax he
    have := o5 m h1
    simp [markOK, yY] at this
    simp [markE] at h2
    rcases h2 with rfl | rfl <;> simp only [] <;> omega
  · obtain ⟨m, k, h1, _, h2⟩ := joinsE_mem ax he
    have := o6 m h1
    simp [joinOK, yY] at this
    simp [joinE] at h2
    rcases h2 with rfl | rfl <;> simp only [] <;> omega
theorem cmp_gt (a b : Int) : decide (cmpI a b > 0) = decide (b < a) := by
  unfold cmpI
  split
  · rename_i h; simp [h]
  · split <;> rename_i h <;> simp <;> omega

theorem L18_17_0 {F : Exit → St → Option D} (p : Paper) (fs : List F4) (nf : Bool) (sf : Nat) (es : List Edge) (k : List Kt) (x : D) (hnf : nf = true → fs = []) (hsf : nf = false → sf = 4) (hfs : fs.all f4OK = true) (hl : fs.length ≤ 4) (hes : ∀ e ∈ es, edgeB e ∧ e.src ≤ fs.length ∧ e.dst ≤ fs.length) (hlen : es.length ≤ 1000) (hk : ∀ st, get st.tmps 4 = I 31 → yZ cfg (lim cfg) 18 F k .ret st = some (I 31)) : ∀ (rest : List Edge) (i : Nat), es.drop i = rest → i ≤ es.length →
    (rest.all (edgeFine fs 0) = true → yZ cfg (lim cfg) 18 F k (.exit 4) ⟨83, [(50, B false), (2, .lref 0 0 3 0), (3, .lref 1 0 1 0), (9, .fn (.func 67) [] [.lref 1 0 1 0, .lref 2 0 1 0]), (41, I 0), (47, .sl false (es.map encE) 7 none), (48, I es.length), (49, I (es.length : Nat))], [(0, ⟨[yW p], 3, false⟩), (1, ⟨[.sl nf (fs.map xi) sf none], 1, false⟩), (2, ⟨[I 0], 1, false⟩)], 3, 0⟩ = some x) →
    (rest.all (edgeFine fs 0) = false → x = I 31) →
    EvL cfg (lim cfg) 18 F lp18_17 k ⟨83, [(2, .lref 0 0 3 0), (3, .lref 1 0 1 0), (9, .fn (.func 67) [] [.lref 1 0 1 0, .lref 2 0 1 0]), (41, I 0), (47, .sl false (es.map encE) 7 none), (48, I es.length), (49, I (i : Nat))], [(0, ⟨[yW p], 3, false⟩), (1, ⟨[.sl nf (fs.map xi) sf none], 1, false⟩), (2, ⟨[I 0], 1, false⟩)], 3, 0⟩ = some x := by
  intro rest
  induction rest with
  | nil =>
    intro i hd hi h h'
    have hi' : i = es.length := by
      have := List.drop_eq_nil_iff.1 hd
      omega
    subst hi'
    refine yw ?_
    try dsimp only [lp18_17, x8, yN, Tryd.f18]
    simp only [bW, if_true, Nat.reduceEqDiff, if_false]
    repeat' first
      | (intro hb; first | cases hb | skip)
      | ((first | apply zB | apply y7)
         · rfl
         · simp (disch := assumption) only [yx, z6, get, z5, z0, Nat.reduceEqDiff, decide_true, decide_false, cond_true, cond_false, yk, zr, zI, yg, zF, Bool.and_true, Bool.true_and, Bool.and_self, Bool.and_false, Bool.false_and, Bool.or_false, Bool.or_true, Bool.false_or, Bool.true_or, Bool.not_true, Bool.not_false, if_true, ye, List.length_cons, List.length_nil, yy, yb, z7, zu, zt, zl, List.getElem?_cons_zero, List.getElem?_cons_succ, Nat.reduceAdd, Nat.zero_add, Nat.add_zero, Nat.one_ne_zero, zT, zs, zp, yC, zG, bP, Ty.isAgg, yB, zX, zR, zm, yh, zh, zV, yj, zg, ofV, zQ, zS, Bool.false_eq_true, if_false, Nat.reduceLeDiff, Nat.reduceLT, List.take, List.drop, List.map_cons, List.map_nil, List.append_nil, List.nil_append, List.cons_append, List.set, unD, yf, snapAll, zy, yi, zJ, zj, yE, z8, zw, ym, zU, Int.toNat_natCast, Int.natCast_nonneg, Int.toNat_zero, Int.le_refl, Nat.reduceMul, Nat.zero_mul, Nat.mul_zero, yl, zc, zW, zq, zb, zf, yA, eqD, zo, zK, yp, zH, zk, Nat.le_refl, Array.toList_map, List.size_toArray, List.getElem?_toArray, Nat.sub_zero, List.length_append, Nat.mul_one, zv, yo, bO, bS, z9, ze, zC, List.replicate, zE, zD, y9, allOk, yu, y8, newRow, yM, List.isEmpty, Bool.not_false, Bool.not_true, decide_eq_true_eq, zM, zP, zO, zz, zx, yc, zi, Option.map_some, Option.map_none, Option.isNone, Option.isSome, Option.getD_none, Option.getD_some, yP, zN, zn, Int.reduceToNat, Int.reduceLE, Int.reduceLT, Int.reduceBNe, Int.reduceBEq, tys, cks, Int.lt_irrefl, decide_false]
           rfl
         · simp only [zd, yF, yD, z0, z5, Nat.reduceLT, Nat.reduceEqDiff, decide_true, decide_false, cond_true, cond_false]
           rfl
         · rfl
         first
         | (apply y6
            · simp only [za, z0, Nat.reduceLT, decide_true, cond_true, ins]
              rfl
            · simp only [za, z0, Nat.reduceLT, decide_true, cond_true, ins]
              rfl)
         | (apply yt
            · simp only [za, z0, Nat.reduceLT, decide_true, cond_true, ins]
              rfl))
      | ((first | apply zZ | apply y5)
         · rfl
         · simp only [za, z0, Nat.reduceLT, decide_true, cond_true, ins]
           rfl)
      | (apply zY
         · simp only [z6, get, z5, Nat.reduceEqDiff, decide_true, decide_false, cond_true, cond_false])
      | (apply zA
         · simp only [z6, get, z5, Nat.reduceEqDiff, decide_true, decide_false, cond_true, cond_false])
      | (apply yq
         · kernel_rfl
         · kernel_rfl)
      | (simp only [bW, if_true, Nat.reduceEqDiff, if_false])
    exact h rfl
  | cons e rest ih =>
    intro i hd hi h h'
    have hlt : i < es.length := by
      rcases Nat.lt_or_ge i es.length with h | h
      · exact h
      · rw [List.drop_eq_nil_of_le h] at hd; cases hd
    have hm : es[i]? = some e := by rw [← List.head?_drop, hd]; rfl
    obtain ⟨⟨e1, e2, e3, e4, e5, e6, e7, e8⟩, e9, e10⟩ := hes e (List.mem_of_getElem? hm)
    have hx : (es.map encE)[i]? = some (.agg [I e.src, I e.dst, I e.q.n, I e.q.d, B e.why.join, I e.why.at_, B e.why.back]) := by rw [List.getElem?_map, hm]; rfl
    have hlt' : (i : Int) < (es.length : Int) := by omega
    have hw3 : IntKind.i64.wrap ((i : Int) + 1) = ((i + 1 : Nat) : Int) := by rw [wrap_i64 (by omega) (by omega)]; omega
    have h67a := t67_0 fs nf sf e.src hnf hsf e1 e9 (by omega)
    have h67b := t67_0 fs nf sf e.dst hnf hsf e3 e10 (by omega)
    have hfa := factor_ok (ax := 0) (node := e.src) hfs
    have hfb := factor_ok (ax := 0) (node := e.dst) hfs
    have hgd : edgeFine fs 0 e = decide ((yQ fs 0 e.src).n * e.q.d * (yQ fs 0 e.dst).d ≤ e.q.n * (yQ fs 0 e.dst).n * (yQ fs 0 e.src).d) := rfl
    generalize yQ fs 0 e.src = fa at *
    generalize yQ fs 0 e.dst = fb at *
    simp only [ratioOK, Bool.and_eq_true, decide_eq_true_eq] at hfa hfb
    obtain ⟨⟨⟨a1, a2⟩, a3⟩, a4⟩ := hfa
    obtain ⟨⟨⟨b1, b2⟩, b3⟩, b4⟩ := hfb
    have m1 := Int.mul_le_mul a2 e8 (by omega) (by omega)
    have m1' := Int.mul_le_mul a1 e7 (by omega) (by omega)
    have m2 := Int.mul_le_mul e6 b2 (by omega) (by omega)
    have m2' := Int.mul_le_mul e5 b1 (by omega) (by omega)
    have hwa : IntKind.i64.wrap (fa.n * e.q.d) = fa.n * e.q.d := wrap_i64 (by omega) (by omega)
    have hwb : IntKind.i64.wrap (e.q.n * fb.n) = e.q.n * fb.n := wrap_i64 (by omega) (by omega)
    have h69a := t69 (fa.n * e.q.d) fb.d (by omega) (by omega) (by omega) (by omega)
    have h69b := t69 (e.q.n * fb.n) fa.d (by omega) (by omega) (by omega) (by omega)
    have h70 := t70 (hi64 (fa.n * e.q.d) fb.d) (lo64 (fa.n * e.q.d) fb.d) (hi64 (e.q.n * fb.n) fa.d) (lo64 (e.q.n * fb.n) fa.d)
    rw [cmp_of (Int.mul_nonneg (by omega) (by omega)) (Int.mul_nonneg (by omega) (by omega))] at h70
    have hg : decide (cmpI (fa.n * e.q.d * fb.d) (e.q.n * fb.n * fa.d) > 0) = !(edgeFine fs 0 e) := by
      rw [cmp_gt, hgd]
      by_cases hc : fa.n * e.q.d * fb.d ≤ e.q.n * fb.n * fa.d
      · have : ¬ (e.q.n * fb.n * fa.d < fa.n * e.q.d * fb.d) := by omega
        simp [hc, this]
      · have : e.q.n * fb.n * fa.d < fa.n * e.q.d * fb.d := by omega
        simp [hc, this]
    refine yw ?_
    try dsimp only [lp18_17, x8, yN, Tryd.f18]
    simp only [bW, if_true, Nat.reduceEqDiff, if_false]
    repeat' first
      | (intro hb; first | cases hb | skip)
      | ((first | apply zB | apply y7)
         · rfl
         · simp (disch := assumption) only [yx, z6, get, z5, z0, Nat.reduceEqDiff, decide_true, decide_false, cond_true, cond_false, yk, zr, zI, yg, zF, Bool.and_true, Bool.true_and, Bool.and_self, Bool.and_false, Bool.false_and, Bool.or_false, Bool.or_true, Bool.false_or, Bool.true_or, Bool.not_true, Bool.not_false, if_true, ye, List.length_cons, List.length_nil, yy, yb, z7, zu, zt, zl, List.getElem?_cons_zero, List.getElem?_cons_succ, Nat.reduceAdd, Nat.zero_add, Nat.add_zero, Nat.one_ne_zero, zT, zs, zp, yC, zG, bP, Ty.isAgg, yB, zX, zR, zm, yh, zh, zV, yj, zg, ofV, zQ, zS, Bool.false_eq_true, if_false, Nat.reduceLeDiff, Nat.reduceLT, List.take, List.drop, List.map_cons, List.map_nil, List.append_nil, List.nil_append, List.cons_append, List.set, unD, yf, snapAll, zy, yi, zJ, zj, yE, z8, zw, ym, zU, Int.toNat_natCast, Int.natCast_nonneg, Int.toNat_zero, Int.le_refl, Nat.reduceMul, Nat.zero_mul, Nat.mul_zero, yl, zc, zW, zq, zb, zf, yA, eqD, zo, zK, yp, zH, zk, Nat.le_refl, Array.toList_map, List.size_toArray, List.getElem?_toArray, Nat.sub_zero, List.length_append, Nat.mul_one, zv, yo, bO, bS, z9, ze, zC, List.replicate, zE, zD, y9, allOk, yu, y8, newRow, yM, List.isEmpty, Bool.not_false, Bool.not_true, decide_eq_true_eq, zM, zP, zO, zz, zx, yc, zi, Option.map_some, Option.map_none, Option.isNone, Option.isSome, Option.getD_none, Option.getD_some, yP, zN, zn, Int.reduceToNat, Int.reduceLE, Int.reduceLT, Int.reduceBNe, Int.reduceBEq, tys, cks, hx, hlt', hw3, h67a, h67b, h69a, h69b, h70, hg, hwa, hwb, Int.toNat_natCast, encR]
           rfl
         · simp only [zd, yF, yD, z0, z5, Nat.reduceLT, Nat.reduceEqDiff, decide_true, decide_false, cond_true, cond_false]
           rfl
         · rfl
         first
         | (apply y6
            · simp only [za, z0, Nat.reduceLT, decide_true, cond_true, ins]
              rfl
            · simp only [za, z0, Nat.reduceLT, decide_true, cond_true, ins]
              rfl)
         | (apply yt
            · simp only [za, z0, Nat.reduceLT, decide_true, cond_true, ins]
              rfl))
      | ((first | apply zZ | apply y5)
         · rfl
         · simp only [za, z0, Nat.reduceLT, decide_true, cond_true, ins]
           rfl)
      | (apply zY
         · simp only [z6, get, z5, Nat.reduceEqDiff, decide_true, decide_false, cond_true, cond_false])
      | (apply zA
         · simp only [z6, get, z5, Nat.reduceEqDiff, decide_true, decide_false, cond_true, cond_false])
      | (apply yq
         · kernel_rfl
         · kernel_rfl)
      | (simp only [bW, if_true, Nat.reduceEqDiff, if_false])
    · clear hgd hg
      simp only [Bool.not_eq_true'] at hb
      rw [h' (by simp [hb])]; exact hk _ rfl
    · clear hgd hg
      simp only [Bool.not_eq_false'] at hb
      simp only [List.all_cons, hb, Bool.true_and] at h h'
      exact x7 (st1 := ⟨83, [(2, .lref 0 0 3 0), (3, .lref 1 0 1 0), (9, .fn (.func 67) [] [.lref 1 0 1 0, .lref 2 0 1 0]), (41, I 0), (47, .sl false (es.map encE) 7 none), (48, I es.length), (49, I (i + 1 : Nat))], [(0, ⟨[yW p], 3, false⟩), (1, ⟨[.sl nf (fs.map xi) sf none], 1, false⟩), (2, ⟨[I 0], 1, false⟩)], 3, 0⟩) lk18_17 (by kernel_rfl) (ih (i + 1) (by rw [← List.drop_drop, hd]; rfl) hlt h h')

theorem L18_17_1 {F : Exit → St → Option D} (p : Paper) (fs : List F4) (nf : Bool) (sf : Nat) (es : List Edge) (k : List Kt) (x : D) (hnf : nf = true → fs = []) (hsf : nf = false → sf = 4) (hfs : fs.all f4OK = true) (hl : fs.length ≤ 4) (hes : ∀ e ∈ es, edgeB e ∧ e.src ≤ fs.length ∧ e.dst ≤ fs.length) (hlen : es.length ≤ 1000) (hk : ∀ st, get st.tmps 4 = I 31 → yZ cfg (lim cfg) 18 F k .ret st = some (I 31)) : ∀ (rest : List Edge) (i : Nat), es.drop i = rest → i ≤ es.length →
    (rest.all (edgeFine fs 1) = true → yZ cfg (lim cfg) 18 F k (.exit 4) ⟨83, [(50, B false), (2, .lref 0 0 3 0), (3, .lref 1 0 1 0), (9, .fn (.func 67) [] [.lref 1 0 1 0, .lref 2 0 1 0]), (41, I 1), (47, .sl false (es.map encE) 7 none), (48, I es.length), (49, I (es.length : Nat))], [(0, ⟨[yW p], 3, false⟩), (1, ⟨[.sl nf (fs.map xi) sf none], 1, false⟩), (2, ⟨[I 1], 1, false⟩)], 3, 0⟩ = some x) →
    (rest.all (edgeFine fs 1) = false → x = I 31) →
    EvL cfg (lim cfg) 18 F lp18_17 k ⟨83, [(2, .lref 0 0 3 0), (3, .lref 1 0 1 0), (9, .fn (.func 67) [] [.lref 1 0 1 0, .lref 2 0 1 0]), (41, I 1), (47, .sl false (es.map encE) 7 none), (48, I es.length), (49, I (i : Nat))], [(0, ⟨[yW p], 3, false⟩), (1, ⟨[.sl nf (fs.map xi) sf none], 1, false⟩), (2, ⟨[I 1], 1, false⟩)], 3, 0⟩ = some x := by
  intro rest
  induction rest with
  | nil =>
    intro i hd hi h h'
    have hi' : i = es.length := by
      have := List.drop_eq_nil_iff.1 hd
      omega
    subst hi'
    refine yw ?_
    try dsimp only [lp18_17, x8, yN, Tryd.f18]
    simp only [bW, if_true, Nat.reduceEqDiff, if_false]
    repeat' first
      | (intro hb; first | cases hb | skip)
      | ((first | apply zB | apply y7)
         · rfl
         · simp (disch := assumption) only [yx, z6, get, z5, z0, Nat.reduceEqDiff, decide_true, decide_false, cond_true, cond_false, yk, zr, zI, yg, zF, Bool.and_true, Bool.true_and, Bool.and_self, Bool.and_false, Bool.false_and, Bool.or_false, Bool.or_true, Bool.false_or, Bool.true_or, Bool.not_true, Bool.not_false, if_true, ye, List.length_cons, List.length_nil, yy, yb, z7, zu, zt, zl, List.getElem?_cons_zero, List.getElem?_cons_succ, Nat.reduceAdd, Nat.zero_add, Nat.add_zero, Nat.one_ne_zero, zT, zs, zp, yC, zG, bP, Ty.isAgg, yB, zX, zR, zm, yh, zh, zV, yj, zg, ofV, zQ, zS, Bool.false_eq_true, if_false, Nat.reduceLeDiff, Nat.reduceLT, List.take, List.drop, List.map_cons, List.map_nil, List.append_nil, List.nil_append, List.cons_append, List.set, unD, yf, snapAll, zy, yi, zJ, zj, yE, z8, zw, ym, zU, Int.toNat_natCast, Int.natCast_nonneg, Int.toNat_zero, Int.le_refl, Nat.reduceMul, Nat.zero_mul, Nat.mul_zero, yl, zc, zW, zq, zb, zf, yA, eqD, zo, zK, yp, zH, zk, Nat.le_refl, Array.toList_map, List.size_toArray, List.getElem?_toArray, Nat.sub_zero, List.length_append, Nat.mul_one, zv, yo, bO, bS, z9, ze, zC, List.replicate, zE, zD, y9, allOk, yu, y8, newRow, yM, List.isEmpty, Bool.not_false, Bool.not_true, decide_eq_true_eq, zM, zP, zO, zz, zx, yc, zi, Option.map_some, Option.map_none, Option.isNone, Option.isSome, Option.getD_none, Option.getD_some, yP, zN, zn, Int.reduceToNat, Int.reduceLE, Int.reduceLT, Int.reduceBNe, Int.reduceBEq, tys, cks, Int.lt_irrefl, decide_false]
           rfl
         · simp only [zd, yF, yD, z0, z5, Nat.reduceLT, Nat.reduceEqDiff, decide_true, decide_false, cond_true, cond_false]
           rfl
         · rfl
         first
         | (apply y6
            · simp only [za, z0, Nat.reduceLT, decide_true, cond_true, ins]
              rfl
            · simp only [za, z0, Nat.reduceLT, decide_true, cond_true, ins]
              rfl)
         | (apply yt
            · simp only [za, z0, Nat.reduceLT, decide_true, cond_true, ins]
              rfl))
      | ((first | apply zZ | apply y5)
         · rfl
         · simp only [za, z0, Nat.reduceLT, decide_true, cond_true, ins]
           rfl)
      | (apply zY
         · simp only [z6, get, z5, Nat.reduceEqDiff, decide_true, decide_false, cond_true, cond_false])
      | (apply zA
         · simp only [z6, get, z5, Nat.reduceEqDiff, decide_true, decide_false, cond_true, cond_false])
      | (apply yq
         · kernel_rfl
         · kernel_rfl)
      | (simp only [bW, if_true, Nat.reduceEqDiff, if_false])
    exact h rfl
  | cons e rest ih =>
    intro i hd hi h h'
    have hlt : i < es.length := by
      rcases Nat.lt_or_ge i es.length with h | h
      · exact h
      · rw [List.drop_eq_nil_of_le h] at hd; cases hd
    have hm : es[i]? = some e := by rw [← List.head?_drop, hd]; rfl
    obtain ⟨⟨e1, e2, e3, e4, e5, e6, e7, e8⟩, e9, e10⟩ := hes e (List.mem_of_getElem? hm)
    have hx : (es.map encE)[i]? = some (.agg [I e.src, I e.dst, I e.q.n, I e.q.d, B e.why.join, I e.why.at_, B e.why.back]) := by rw [List.getElem?_map, hm]; rfl
    have hlt' : (i : Int) < (es.length : Int) := by omega
    have hw3 : IntKind.i64.wrap ((i : Int) + 1) = ((i + 1 : Nat) : Int) := by rw [wrap_i64 (by omega) (by omega)]; omega
    have h67a := t67_1 fs nf sf e.src hnf hsf e1 e9 (by omega)
    have h67b := t67_1 fs nf sf e.dst hnf hsf e3 e10 (by omega)
    have hfa := factor_ok (ax := 1) (node := e.src) hfs
    have hfb := factor_ok (ax := 1) (node := e.dst) hfs
    have hgd : edgeFine fs 1 e = decide ((yQ fs 1 e.src).n * e.q.d * (yQ fs 1 e.dst).d ≤ e.q.n * (yQ fs 1 e.dst).n * (yQ fs 1 e.src).d) := rfl
    generalize yQ fs 1 e.src = fa at *
    generalize yQ fs 1 e.dst = fb at *
    simp only [ratioOK, Bool.and_eq_true, decide_eq_true_eq] at hfa hfb
    obtain ⟨⟨⟨a1, a2⟩, a3⟩, a4⟩ := hfa
    obtain ⟨⟨⟨b1, b2⟩, b3⟩, b4⟩ := hfb
    have m1 := Int.mul_le_mul a2 e8 (by omega) (by omega)
    have m1' := Int.mul_le_mul a1 e7 (by omega) (by omega)
    have m2 := Int.mul_le_mul e6 b2 (by omega) (by omega)
    have m2' := Int.mul_le_mul e5 b1 (by omega) (by omega)
    have hwa : IntKind.i64.wrap (fa.n * e.q.d) = fa.n * e.q.d := wrap_i64 (by omega) (by omega)
    have hwb : IntKind.i64.wrap (e.q.n * fb.n) = e.q.n * fb.n := wrap_i64 (by omega) (by omega)
    have h69a := t69 (fa.n * e.q.d) fb.d (by omega) (by omega) (by omega) (by omega)
    have h69b := t69 (e.q.n * fb.n) fa.d (by omega) (by omega) (by omega) (by omega)
    have h70 := t70 (hi64 (fa.n * e.q.d) fb.d) (lo64 (fa.n * e.q.d) fb.d) (hi64 (e.q.n * fb.n) fa.d) (lo64 (e.q.n * fb.n) fa.d)
    rw [cmp_of (Int.mul_nonneg (by omega) (by omega)) (Int.mul_nonneg (by omega) (by omega))] at h70
    have hg : decide (cmpI (fa.n * e.q.d * fb.d) (e.q.n * fb.n * fa.d) > 0) = !(edgeFine fs 1 e) := by
      rw [cmp_gt, hgd]
      by_cases hc : fa.n * e.q.d * fb.d ≤ e.q.n * fb.n * fa.d
      · have : ¬ (e.q.n * fb.n * fa.d < fa.n * e.q.d * fb.d) := by omega
        simp [hc, this]
      · have : e.q.n * fb.n * fa.d < fa.n * e.q.d * fb.d := by omega
        simp [hc, this]
    refine yw ?_
    try dsimp only [lp18_17, x8, yN, Tryd.f18]
    simp only [bW, if_true, Nat.reduceEqDiff, if_false]
    repeat' first
      | (intro hb; first | cases hb | skip)
      | ((first | apply zB | apply y7)
         · rfl
         · simp (disch := assumption) only [yx, z6, get, z5, z0, Nat.reduceEqDiff, decide_true, decide_false, cond_true, cond_false, yk, zr, zI, yg, zF, Bool.and_true, Bool.true_and, Bool.and_self, Bool.and_false, Bool.false_and, Bool.or_false, Bool.or_true, Bool.false_or, Bool.true_or, Bool.not_true, Bool.not_false, if_true, ye, List.length_cons, List.length_nil, yy, yb, z7, zu, zt, zl, List.getElem?_cons_zero, List.getElem?_cons_succ, Nat.reduceAdd, Nat.zero_add, Nat.add_zero, Nat.one_ne_zero, zT, zs, zp, yC, zG, bP, Ty.isAgg, yB, zX, zR, zm, yh, zh, zV, yj, zg, ofV, zQ, zS, Bool.false_eq_true, if_false, Nat.reduceLeDiff, Nat.reduceLT, List.take, List.drop, List.map_cons, List.map_nil, List.append_nil, List.nil_append, List.cons_append, List.set, unD, yf, snapAll, zy, yi, zJ, zj, yE, z8, zw, ym, zU, Int.toNat_natCast, Int.natCast_nonneg, Int.toNat_zero, Int.le_refl, Nat.reduceMul, Nat.zero_mul, Nat.mul_zero, yl, zc, zW, zq, zb, zf, yA, eqD, zo, zK, yp, zH, zk, Nat.le_refl, Array.toList_map, List.size_toArray, List.getElem?_toArray, Nat.sub_zero, List.length_append, Nat.mul_one, zv, yo, bO, bS, z9, ze, zC, List.replicate, zE, zD, y9, allOk, yu, y8, newRow, yM, List.isEmpty, Bool.not_false, Bool.not_true, decide_eq_true_eq, zM, zP, zO, zz, zx, yc, zi, Option.map_some, Option.map_none, Option.isNone, Option.isSome, Option.getD_none, Option.getD_some, yP, zN, zn, Int.reduceToNat, Int.reduceLE, Int.reduceLT, Int.reduceBNe, Int.reduceBEq, tys, cks, hx, hlt', hw3, h67a, h67b, h69a, h69b, h70, hg, hwa, hwb, Int.toNat_natCast, encR]
           rfl
         · simp only [zd, yF, yD, z0, z5, Nat.reduceLT, Nat.reduceEqDiff, decide_true, decide_false, cond_true, cond_false]
           rfl
         · rfl
         first
         | (apply y6
            · simp only [za, z0, Nat.reduceLT, decide_true, cond_true, ins]
              rfl
            · simp only [za, z0, Nat.reduceLT, decide_true, cond_true, ins]
              rfl)
         | (apply yt
            · simp only [za, z0, Nat.reduceLT, decide_true, cond_true, ins]
              rfl))
      | ((first | apply zZ | apply y5)
         · rfl
         · simp only [za, z0, Nat.reduceLT, decide_true, cond_true, ins]
           rfl)
      | (apply zY
         · simp only [z6, get, z5, Nat.reduceEqDiff, decide_true, decide_false, cond_true, cond_false])
      | (apply zA
         · simp only [z6, get, z5, Nat.reduceEqDiff, decide_true, decide_false, cond_true, cond_false])
      | (apply yq
         · kernel_rfl
         · kernel_rfl)
      | (simp only [bW, if_true, Nat.reduceEqDiff, if_false])
    · clear hgd hg
      simp only [Bool.not_eq_true'] at hb
      rw [h' (by simp [hb])]; exact hk _ rfl
    · clear hgd hg
      simp only [Bool.not_eq_false'] at hb
      simp only [List.all_cons, hb, Bool.true_and] at h h'
      exact x7 (st1 := ⟨83, [(2, .lref 0 0 3 0), (3, .lref 1 0 1 0), (9, .fn (.func 67) [] [.lref 1 0 1 0, .lref 2 0 1 0]), (41, I 1), (47, .sl false (es.map encE) 7 none), (48, I es.length), (49, I (i + 1 : Nat))], [(0, ⟨[yW p], 3, false⟩), (1, ⟨[.sl nf (fs.map xi) sf none], 1, false⟩), (2, ⟨[I 1], 1, false⟩)], 3, 0⟩) lk18_17 (by kernel_rfl) (ih (i + 1) (by rw [← List.drop_drop, hd]; rfl) hlt h h')

theorem t18 (p : Paper) (fs : List F4) (nf : Bool) (sf : Nat) (hwf : p.wf) (hnf : nf = true → fs = []) (hsf : nf = false → sf = 4) (hl : fs.length ≤ 9223372036854775807) : (lim cfg).pure 18 [yW p, .sl nf (fs.map xi) sf none] = some (I (checkFF p fs)) := by
  have h15 := t15 p hwf
  have hlf := len_if (f := xi) hnf
  unfold check at h15
  unfold checkFF
  cases hok : xc p with
  | false =>
    rw [hok] at h15
    simp only [Bool.false_eq_true, if_false] at h15 ⊢
    refine yR (yG 18) cfn18 rfl (n := 83) rfl ?_
    simp only [bW, if_true, Nat.reduceEqDiff, if_false, yJ]
    repeat' first
      | (intro hb; first | cases hb | skip)
      | ((first | apply zB | apply y7)
         · rfl
         · simp (disch := assumption) only [yx, z6, get, z5, z0, Nat.reduceEqDiff, decide_true, decide_false, cond_true, cond_false, yk, zr, zI, yg, zF, Bool.and_true, Bool.true_and, Bool.and_self, Bool.and_false, Bool.false_and, Bool.or_false, Bool.or_true, Bool.false_or, Bool.true_or, Bool.not_true, Bool.not_false, if_true, ye, List.length_cons, List.length_nil, yy, yb, z7, zu, zt, zl, List.getElem?_cons_zero, List.getElem?_cons_succ, Nat.reduceAdd, Nat.zero_add, Nat.add_zero, Nat.one_ne_zero, zT, zs, zp, yC, zG, bP, Ty.isAgg, yB, zX, zR, zm, yh, zh, zV, yj, zg, ofV, zQ, zS, Bool.false_eq_true, if_false, Nat.reduceLeDiff, Nat.reduceLT, List.take, List.drop, List.map_cons, List.map_nil, List.append_nil, List.nil_append, List.cons_append, List.set, unD, yf, snapAll, zy, yi, zJ, zj, yE, z8, zw, ym, zU, Int.toNat_natCast, Int.natCast_nonneg, Int.toNat_zero, Int.le_refl, Nat.reduceMul, Nat.zero_mul, Nat.mul_zero, yl, zc, zW, zq, zb, zf, yA, eqD, zo, zK, yp, zH, zk, Nat.le_refl, Array.toList_map, List.size_toArray, List.getElem?_toArray, Nat.sub_zero, List.length_append, Nat.mul_one, zv, yo, bO, bS, z9, ze, zC, List.replicate, zE, zD, y9, allOk, yu, y8, newRow, yM, List.isEmpty, Bool.not_false, Bool.not_true, decide_eq_true_eq, zM, zP, zO, zz, zx, yc, zi, Option.map_some, Option.map_none, Option.isNone, Option.isSome, Option.getD_none, Option.getD_some, yP, zN, zn, Int.reduceToNat, Int.reduceLE, Int.reduceLT, Int.reduceBNe, Int.reduceBEq, tys, cks, h15]
           rfl
         · simp only [zd, yF, yD, z0, z5, Nat.reduceLT, Nat.reduceEqDiff, decide_true, decide_false, cond_true, cond_false]
           rfl
         · rfl
         first
         | (apply y6
            · simp only [za, z0, Nat.reduceLT, decide_true, cond_true, ins]
              rfl
            · simp only [za, z0, Nat.reduceLT, decide_true, cond_true, ins]
              rfl)
         | (apply yt
            · simp only [za, z0, Nat.reduceLT, decide_true, cond_true, ins]
              rfl))
      | ((first | apply zZ | apply y5)
         · rfl
         · simp only [za, z0, Nat.reduceLT, decide_true, cond_true, ins]
           rfl)
      | (apply zY
         · simp only [z6, get, z5, Nat.reduceEqDiff, decide_true, decide_false, cond_true, cond_false])
      | (apply zA
         · simp only [z6, get, z5, Nat.reduceEqDiff, decide_true, decide_false, cond_true, cond_false])
      | (apply yq
         · kernel_rfl
         · kernel_rfl)
      | (simp only [bW, if_true, Nat.reduceEqDiff, if_false])
    all_goals try simp only [xf, finF, yI, yX, zl, get, zG, z5, Nat.reduceEqDiff, decide_true, decide_false, cond_true, cond_false, yV, snapAll, zy, List.getElem?_cons_zero, List.getElem?_cons_succ, bP, Ty.isAgg, if_true, if_false, Bool.false_eq_true, Nat.zero_add, Nat.add_zero, List.length_cons, List.length_nil, Nat.reduceAdd, Nat.reduceLeDiff, List.take, List.drop, Bool.true_and, Bool.and_self, Nat.le_refl, List.map_cons, List.length_map, List.append_nil, List.nil_append, List.cons_append, Nat.sub_zero, bO, bS, tys, Tryd.f18]
    all_goals first | done | rfl | (simp_all []; done) | trace_state
  | true =>
    rw [hok] at h15
    simp only [if_true] at h15 ⊢
    obtain ⟨o1, o2, _⟩ := paperOK_def hok
    have e1 : IntKind.i64.wrap (0 + 1) = 1 := by decide
    have e2 : IntKind.i64.wrap (1 + 1) = 2 := by decide
    by_cases hlen : (fs.length : Int) = p.sheets
    · have hne : ((fs.length : Int) != p.sheets) = false := by simp [hlen]
      refine yR (yG 18) cfn18 rfl (n := 83) rfl ?_
      generalize hF : xf cfg Tryd.f18 = F
      simp only [bW, if_true, Nat.reduceEqDiff, if_false, yJ]
      repeat' first
        | (intro hb; first | cases hb | skip)
        | ((first | apply zB | apply y7)
           · rfl
           · simp (disch := assumption) only [yx, z6, get, z5, z0, Nat.reduceEqDiff, decide_true, decide_false, cond_true, cond_false, yk, zr, zI, yg, zF, Bool.and_true, Bool.true_and, Bool.and_self, Bool.and_false, Bool.false_and, Bool.or_false, Bool.or_true, Bool.false_or, Bool.true_or, Bool.not_true, Bool.not_false, if_true, ye, List.length_cons, List.length_nil, yy, yb, z7, zu, zt, zl, List.getElem?_cons_zero, List.getElem?_cons_succ, Nat.reduceAdd, Nat.zero_add, Nat.add_zero, Nat.one_ne_zero, zT, zs, zp, yC, zG, bP, Ty.isAgg, yB, zX, zR, zm, yh, zh, zV, yj, zg, ofV, zQ, zS, Bool.false_eq_true, if_false, Nat.reduceLeDiff, Nat.reduceLT, List.take, List.drop, List.map_cons, List.map_nil, List.append_nil, List.nil_append, List.cons_append, List.set, unD, yf, snapAll, zy, yi, zJ, zj, yE, z8, zw, ym, zU, Int.toNat_natCast, Int.natCast_nonneg, Int.toNat_zero, Int.le_refl, Nat.reduceMul, Nat.zero_mul, Nat.mul_zero, yl, zc, zW, zq, zb, zf, yA, eqD, zo, zK, yp, zH, zk, Nat.le_refl, Array.toList_map, List.size_toArray, List.getElem?_toArray, Nat.sub_zero, List.length_append, Nat.mul_one, zv, yo, bO, bS, z9, ze, zC, List.replicate, zE, zD, y9, allOk, yu, y8, newRow, yM, List.isEmpty, Bool.not_false, Bool.not_true, decide_eq_true_eq, zM, zP, zO, zz, zx, yc, zi, Option.map_some, Option.map_none, Option.isNone, Option.isSome, Option.getD_none, Option.getD_some, yP, zN, zn, Int.reduceToNat, Int.reduceLE, Int.reduceLT, Int.reduceBNe, Int.reduceBEq, tys, cks, h15, hlf, hne]
             rfl
           · simp only [zd, yF, yD, z0, z5, Nat.reduceLT, Nat.reduceEqDiff, decide_true, decide_false, cond_true, cond_false]
             rfl
           · rfl
           first
           | (apply y6
              · simp only [za, z0, Nat.reduceLT, decide_true, cond_true, ins]
                rfl
              · simp only [za, z0, Nat.reduceLT, decide_true, cond_true, ins]
                rfl)
           | (apply yt
              · simp only [za, z0, Nat.reduceLT, decide_true, cond_true, ins]
                rfl))
        | ((first | apply zZ | apply y5)
           · rfl
           · simp only [za, z0, Nat.reduceLT, decide_true, cond_true, ins]
             rfl)
        | (apply zY
           · simp only [z6, get, z5, Nat.reduceEqDiff, decide_true, decide_false, cond_true, cond_false])
        | (apply zA
           · simp only [z6, get, z5, Nat.reduceEqDiff, decide_true, decide_false, cond_true, cond_false])
        | (apply yq
           · kernel_rfl
           · kernel_rfl)
        | (simp only [bW, if_true, Nat.reduceEqDiff, if_false])
      have hend : ∀ v st, get st.tmps 4 = I v → F .ret st = some (I v) := by
        intro v st hd
        subst hF
        simp only [xf, finF, yI, yX, zl, get, zG, z5, Nat.reduceEqDiff, decide_true, decide_false, cond_true, cond_false, yV, snapAll, zy, List.getElem?_cons_zero, List.getElem?_cons_succ, bP, Ty.isAgg, if_true, if_false, Bool.false_eq_true, Nat.zero_add, Nat.add_zero, List.length_cons, List.length_nil, Nat.reduceAdd, Nat.reduceLeDiff, List.take, List.drop, Bool.true_and, Bool.and_self, Nat.le_refl, List.map_cons, List.length_map, List.append_nil, List.nil_append, List.cons_append, Nat.sub_zero, bO, bS, tys, Tryd.f18, hd]
      refine w_loop (st1 := ⟨83, [(2, .lref 0 0 3 0), (3, .lref 1 0 1 0), (24, .sl nf (fs.map xi) sf none), (25, I fs.length), (26, I (0 : Nat))], [(0, ⟨[yW p], 3, false⟩), (1, ⟨[.sl nf (fs.map xi) sf none], 1, false⟩)], 2, 0⟩) lk18_7 (by kernel_rfl) (L18_7 p fs nf sf _ _ hnf hsf hl (fun st hd => ?_) fs 0 rfl (Nat.zero_le _) (fun hfs => ?_) (fun hfs => by simp [hlen, hfs]))
      · simp only [bW, if_true, Nat.reduceEqDiff, if_false]
        exact hend 1 st hd
      · rw [if_pos ⟨hlen, hfs⟩]
        have h68a := t68 p 0 hwf hok
        have h68b := t68 p 1 hwf hok
        simp only [bW, if_true, Nat.reduceEqDiff, if_false]
        repeat' first
          | (intro hb; first | cases hb | skip)
          | ((first | apply zB | apply y7)
             · rfl
             · simp (disch := assumption) only [yx, z6, get, z5, z0, Nat.reduceEqDiff, decide_true, decide_false, cond_true, cond_false, yk, zr, zI, yg, zF, Bool.and_true, Bool.true_and, Bool.and_self, Bool.and_false, Bool.false_and, Bool.or_false, Bool.or_true, Bool.false_or, Bool.true_or, Bool.not_true, Bool.not_false, if_true, ye, List.length_cons, List.length_nil, yy, yb, z7, zu, zt, zl, List.getElem?_cons_zero, List.getElem?_cons_succ, Nat.reduceAdd, Nat.zero_add, Nat.add_zero, Nat.one_ne_zero, zT, zs, zp, yC, zG, bP, Ty.isAgg, yB, zX, zR, zm, yh, zh, zV, yj, zg, ofV, zQ, zS, Bool.false_eq_true, if_false, Nat.reduceLeDiff, Nat.reduceLT, List.take, List.drop, List.map_cons, List.map_nil, List.append_nil, List.nil_append, List.cons_append, List.set, unD, yf, snapAll, zy, yi, zJ, zj, yE, z8, zw, ym, zU, Int.toNat_natCast, Int.natCast_nonneg, Int.toNat_zero, Int.le_refl, Nat.reduceMul, Nat.zero_mul, Nat.mul_zero, yl, zc, zW, zq, zb, zf, yA, eqD, zo, zK, yp, zH, zk, Nat.le_refl, Array.toList_map, List.size_toArray, List.getElem?_toArray, Nat.sub_zero, List.length_append, Nat.mul_one, zv, yo, bO, bS, z9, ze, zC, List.replicate, zE, zD, y9, allOk, yu, y8, newRow, yM, List.isEmpty, Bool.not_false, Bool.not_true, decide_eq_true_eq, zM, zP, zO, zz, zx, yc, zi, Option.map_some, Option.map_none, Option.isNone, Option.isSome, Option.getD_none, Option.getD_some, yP, zN, zn, Int.reduceToNat, Int.reduceLE, Int.reduceLT, Int.reduceBNe, Int.reduceBEq, tys, cks]
               rfl
             · simp only [zd, yF, yD, z0, z5, Nat.reduceLT, Nat.reduceEqDiff, decide_true, decide_false, cond_true, cond_false]
               rfl
             · rfl
             first
             | (apply y6
                · simp only [za, z0, Nat.reduceLT, decide_true, cond_true, ins]
                  rfl
                · simp only [za, z0, Nat.reduceLT, decide_true, cond_true, ins]
                  rfl)
             | (apply yt
                · simp only [za, z0, Nat.reduceLT, decide_true, cond_true, ins]
                  rfl))
          | ((first | apply zZ | apply y5)
             · rfl
             · simp only [za, z0, Nat.reduceLT, decide_true, cond_true, ins]
               rfl)
          | (apply zY
             · simp only [z6, get, z5, Nat.reduceEqDiff, decide_true, decide_false, cond_true, cond_false])
          | (apply zA
             · simp only [z6, get, z5, Nat.reduceEqDiff, decide_true, decide_false, cond_true, cond_false])
          | (apply yq
             · kernel_rfl
             · kernel_rfl)
          | (simp only [bW, if_true, Nat.reduceEqDiff, if_false])
        refine w_loop (st1 := ⟨83, [(2, .lref 0 0 3 0), (3, .lref 1 0 1 0), (41, I 0)], [(0, ⟨[yW p], 3, false⟩), (1, ⟨[.sl nf (fs.map xi) sf none], 1, false⟩)], 2, 0⟩) lk18_13 (by kernel_rfl) ?_
        refine yw ?_
        try dsimp only [lp18_13, x8, yN, Tryd.f18]
        simp only [bW, if_true, Nat.reduceEqDiff, if_false]
        repeat' first
          | (intro hb; first | cases hb | skip)
          | ((first | apply zB | apply y7)
             · rfl
             · simp (disch := assumption) only [yx, z6, get, z5, z0, Nat.reduceEqDiff, decide_true, decide_false, cond_true, cond_false, yk, zr, zI, yg, zF, Bool.and_true, Bool.true_and, Bool.and_self, Bool.and_false, Bool.false_and, Bool.or_false, Bool.or_true, Bool.false_or, Bool.true_or, Bool.not_true, Bool.not_false, if_true, ye, List.length_cons, List.length_nil, yy, yb, z7, zu, zt, zl, List.getElem?_cons_zero, List.getElem?_cons_succ, Nat.reduceAdd, Nat.zero_add, Nat.add_zero, Nat.one_ne_zero, zT, zs, zp, yC, zG, bP, Ty.isAgg, yB, zX, zR, zm, yh, zh, zV, yj, zg, ofV, zQ, zS, Bool.false_eq_true, if_false, Nat.reduceLeDiff, Nat.reduceLT, List.take, List.drop, List.map_cons, List.map_nil, List.append_nil, List.nil_append, List.cons_append, List.set, unD, yf, snapAll, zy, yi, zJ, zj, yE, z8, zw, ym, zU, Int.toNat_natCast, Int.natCast_nonneg, Int.toNat_zero, Int.le_refl, Nat.reduceMul, Nat.zero_mul, Nat.mul_zero, yl, zc, zW, zq, zb, zf, yA, eqD, zo, zK, yp, zH, zk, Nat.le_refl, Array.toList_map, List.size_toArray, List.getElem?_toArray, Nat.sub_zero, List.length_append, Nat.mul_one, zv, yo, bO, bS, z9, ze, zC, List.replicate, zE, zD, y9, allOk, yu, y8, newRow, yM, List.isEmpty, Bool.not_false, Bool.not_true, decide_eq_true_eq, zM, zP, zO, zz, zx, yc, zi, Option.map_some, Option.map_none, Option.isNone, Option.isSome, Option.getD_none, Option.getD_some, yP, zN, zn, Int.reduceToNat, Int.reduceLE, Int.reduceLT, Int.reduceBNe, Int.reduceBEq, tys, cks, h68a, List.length_map]
               rfl
             · simp only [zd, yF, yD, z0, z5, Nat.reduceLT, Nat.reduceEqDiff, decide_true, decide_false, cond_true, cond_false]
               rfl
             · rfl
             first
             | (apply y6
                · simp only [za, z0, Nat.reduceLT, decide_true, cond_true, ins]
                  rfl
                · simp only [za, z0, Nat.reduceLT, decide_true, cond_true, ins]
                  rfl)
             | (apply yt
                · simp only [za, z0, Nat.reduceLT, decide_true, cond_true, ins]
                  rfl))
          | ((first | apply zZ | apply y5)
             · rfl
             · simp only [za, z0, Nat.reduceLT, decide_true, cond_true, ins]
               rfl)
          | (apply zY
             · simp only [z6, get, z5, Nat.reduceEqDiff, decide_true, decide_false, cond_true, cond_false])
          | (apply zA
             · simp only [z6, get, z5, Nat.reduceEqDiff, decide_true, decide_false, cond_true, cond_false])
          | (apply yq
             · kernel_rfl
             · kernel_rfl)
          | (simp only [bW, if_true, Nat.reduceEqDiff, if_false])
        refine w_loop (st1 := ⟨83, [(2, .lref 0 0 3 0), (3, .lref 1 0 1 0), (9, .fn (.func 67) [] [.lref 1 0 1 0, .lref 2 0 1 0]), (41, I 0), (47, .sl false ((edges p 0).map encE) 7 none), (48, I (edges p 0).length), (49, I (0 : Nat))], [(0, ⟨[yW p], 3, false⟩), (1, ⟨[.sl nf (fs.map xi) sf none], 1, false⟩), (2, ⟨[I 0], 1, false⟩)], 3, 0⟩) lk18_17 (by kernel_rfl) (L18_17_0 p fs nf sf (edges p 0) _ _ hnf hsf hfs (by omega) (fun e he => ⟨(edgesB hok 0).1 e he, by have := edges_sheets hok 0 e he; omega, by have := edges_sheets hok 0 e he; omega⟩) (edgesB hok 0).2 (fun st hd => ?_) (edges p 0) 0 rfl (Nat.zero_le _) (fun ha => ?_) (fun ha => ?_))
        · simp only [bW, if_true, Nat.reduceEqDiff, if_false]
          exact hend 31 st hd
        · have ha0 : factorsFine p fs 0 = true := ha
          clear ha
          simp only [bW, if_true, Nat.reduceEqDiff, if_false]
          repeat' first
            | (intro hb; first | cases hb | skip)
            | ((first | apply zB | apply y7)
               · rfl
               · simp (disch := assumption) only [yx, z6, get, z5, z0, Nat.reduceEqDiff, decide_true, decide_false, cond_true, cond_false, yk, zr, zI, yg, zF, Bool.and_true, Bool.true_and, Bool.and_self, Bool.and_false, Bool.false_and, Bool.or_false, Bool.or_true, Bool.false_or, Bool.true_or, Bool.not_true, Bool.not_false, if_true, ye, List.length_cons, List.length_nil, yy, yb, z7, zu, zt, zl, List.getElem?_cons_zero, List.getElem?_cons_succ, Nat.reduceAdd, Nat.zero_add, Nat.add_zero, Nat.one_ne_zero, zT, zs, zp, yC, zG, bP, Ty.isAgg, yB, zX, zR, zm, yh, zh, zV, yj, zg, ofV, zQ, zS, Bool.false_eq_true, if_false, Nat.reduceLeDiff, Nat.reduceLT, List.take, List.drop, List.map_cons, List.map_nil, List.append_nil, List.nil_append, List.cons_append, List.set, unD, yf, snapAll, zy, yi, zJ, zj, yE, z8, zw, ym, zU, Int.toNat_natCast, Int.natCast_nonneg, Int.toNat_zero, Int.le_refl, Nat.reduceMul, Nat.zero_mul, Nat.mul_zero, yl, zc, zW, zq, zb, zf, yA, eqD, zo, zK, yp, zH, zk, Nat.le_refl, Array.toList_map, List.size_toArray, List.getElem?_toArray, Nat.sub_zero, List.length_append, Nat.mul_one, zv, yo, bO, bS, z9, ze, zC, List.replicate, zE, zD, y9, allOk, yu, y8, newRow, yM, List.isEmpty, Bool.not_false, Bool.not_true, decide_eq_true_eq, zM, zP, zO, zz, zx, yc, zi, Option.map_some, Option.map_none, Option.isNone, Option.isSome, Option.getD_none, Option.getD_some, yP, zN, zn, Int.reduceToNat, Int.reduceLE, Int.reduceLT, Int.reduceBNe, Int.reduceBEq, tys, cks, e1]
                 rfl
               · simp only [zd, yF, yD, z0, z5, Nat.reduceLT, Nat.reduceEqDiff, decide_true, decide_false, cond_true, cond_false]
                 rfl
               · rfl
               first
               | (apply y6
                  · simp only [za, z0, Nat.reduceLT, decide_true, cond_true, ins]
                    rfl
                  · simp only [za, z0, Nat.reduceLT, decide_true, cond_true, ins]
                    rfl)
               | (apply yt
                  · simp only [za, z0, Nat.reduceLT, decide_true, cond_true, ins]
                    rfl))
            | ((first | apply zZ | apply y5)
               · rfl
               · simp only [za, z0, Nat.reduceLT, decide_true, cond_true, ins]
                 rfl)
            | (apply zY
               · simp only [z6, get, z5, Nat.reduceEqDiff, decide_true, decide_false, cond_true, cond_false])
            | (apply zA
               · simp only [z6, get, z5, Nat.reduceEqDiff, decide_true, decide_false, cond_true, cond_false])
            | (apply yq
               · kernel_rfl
               · kernel_rfl)
            | (simp only [bW, if_true, Nat.reduceEqDiff, if_false])
          refine x7 (st1 := ⟨83, [(2, .lref 0 0 3 0), (3, .lref 1 0 1 0), (41, I 1)], [(0, ⟨[yW p], 3, false⟩), (1, ⟨[.sl nf (fs.map xi) sf none], 1, false⟩)], 2, 0⟩) lk18_13 (by kernel_rfl) ?_
          refine yw ?_
          try dsimp only [lp18_13, x8, yN, Tryd.f18]
          simp only [bW, if_true, Nat.reduceEqDiff, if_false]
          repeat' first
            | (intro hb; first | cases hb | skip)
            | ((first | apply zB | apply y7)
               · rfl
               · simp (disch := assumption) only [yx, z6, get, z5, z0, Nat.reduceEqDiff, decide_true, decide_false, cond_true, cond_false, yk, zr, zI, yg, zF, Bool.and_true, Bool.true_and, Bool.and_self, Bool.and_false, Bool.false_and, Bool.or_false, Bool.or_true, Bool.false_or, Bool.true_or, Bool.not_true, Bool.not_false, if_true, ye, List.length_cons, List.length_nil, yy, yb, z7, zu, zt, zl, List.getElem?_cons_zero, List.getElem?_cons_succ, Nat.reduceAdd, Nat.zero_add, Nat.add_zero, Nat.one_ne_zero, zT, zs, zp, yC, zG, bP, Ty.isAgg, yB, zX, zR, zm, yh, zh, zV, yj, zg, ofV, zQ, zS, Bool.false_eq_true, if_false, Nat.reduceLeDiff, Nat.reduceLT, List.take, List.drop, List.map_cons, List.map_nil, List.append_nil, List.nil_append, List.cons_append, List.set, unD, yf, snapAll, zy, yi, zJ, zj, yE, z8, zw, ym, zU, Int.toNat_natCast, Int.natCast_nonneg, Int.toNat_zero, Int.le_refl, Nat.reduceMul, Nat.zero_mul, Nat.mul_zero, yl, zc, zW, zq, zb, zf, yA, eqD, zo, zK, yp, zH, zk, Nat.le_refl, Array.toList_map, List.size_toArray, List.getElem?_toArray, Nat.sub_zero, List.length_append, Nat.mul_one, zv, yo, bO, bS, z9, ze, zC, List.replicate, zE, zD, y9, allOk, yu, y8, newRow, yM, List.isEmpty, Bool.not_false, Bool.not_true, decide_eq_true_eq, zM, zP, zO, zz, zx, yc, zi, Option.map_some, Option.map_none, Option.isNone, Option.isSome, Option.getD_none, Option.getD_some, yP, zN, zn, Int.reduceToNat, Int.reduceLE, Int.reduceLT, Int.reduceBNe, Int.reduceBEq, tys, cks, h68b, List.length_map]
                 rfl
               · simp only [zd, yF, yD, z0, z5, Nat.reduceLT, Nat.reduceEqDiff, decide_true, decide_false, cond_true, cond_false]
                 rfl
               · rfl
               first
               | (apply y6
                  · simp only [za, z0, Nat.reduceLT, decide_true, cond_true, ins]
                    rfl
                  · simp only [za, z0, Nat.reduceLT, decide_true, cond_true, ins]
                    rfl)
               | (apply yt
                  · simp only [za, z0, Nat.reduceLT, decide_true, cond_true, ins]
                    rfl))
            | ((first | apply zZ | apply y5)
               · rfl
               · simp only [za, z0, Nat.reduceLT, decide_true, cond_true, ins]
                 rfl)
            | (apply zY
               · simp only [z6, get, z5, Nat.reduceEqDiff, decide_true, decide_false, cond_true, cond_false])
            | (apply zA
               · simp only [z6, get, z5, Nat.reduceEqDiff, decide_true, decide_false, cond_true, cond_false])
            | (apply yq
               · kernel_rfl
               · kernel_rfl)
            | (simp only [bW, if_true, Nat.reduceEqDiff, if_false])
          refine w_loop (st1 := ⟨83, [(2, .lref 0 0 3 0), (3, .lref 1 0 1 0), (9, .fn (.func 67) [] [.lref 1 0 1 0, .lref 2 0 1 0]), (41, I 1), (47, .sl false ((edges p 1).map encE) 7 none), (48, I (edges p 1).length), (49, I (0 : Nat))], [(0, ⟨[yW p], 3, false⟩), (1, ⟨[.sl nf (fs.map xi) sf none], 1, false⟩), (2, ⟨[I 1], 1, false⟩)], 3, 0⟩) lk18_17 (by kernel_rfl) (L18_17_1 p fs nf sf (edges p 1) _ _ hnf hsf hfs (by omega) (fun e he => ⟨(edgesB hok 1).1 e he, by have := edges_sheets hok 1 e he; omega, by have := edges_sheets hok 1 e he; omega⟩) (edgesB hok 1).2 (fun st hd => ?_) (edges p 1) 0 rfl (Nat.zero_le _) (fun ha => ?_) (fun ha => ?_))
          · simp only [bW, if_true, Nat.reduceEqDiff, if_false]
            exact hend 31 st hd
          · have ha1 : factorsFine p fs 1 = true := ha
            simp only [bW, if_true, Nat.reduceEqDiff, if_false]
            repeat' first
              | (intro hb; first | cases hb | skip)
              | ((first | apply zB | apply y7)
                 · rfl
                 · simp (disch := assumption) only [yx, z6, get, z5, z0, Nat.reduceEqDiff, decide_true, decide_false, cond_true, cond_false, yk, zr, zI, yg, zF, Bool.and_true, Bool.true_and, Bool.and_self, Bool.and_false, Bool.false_and, Bool.or_false, Bool.or_true, Bool.false_or, Bool.true_or, Bool.not_true, Bool.not_false, if_true, ye, List.length_cons, List.length_nil, yy, yb, z7, zu, zt, zl, List.getElem?_cons_zero, List.getElem?_cons_succ, Nat.reduceAdd, Nat.zero_add, Nat.add_zero, Nat.one_ne_zero, zT, zs, zp, yC, zG, bP, Ty.isAgg, yB, zX, zR, zm, yh, zh, zV, yj, zg, ofV, zQ, zS, Bool.false_eq_true, if_false, Nat.reduceLeDiff, Nat.reduceLT, List.take, List.drop, List.map_cons, List.map_nil, List.append_nil, List.nil_append, List.cons_append, List.set, unD, yf, snapAll, zy, yi, zJ, zj, yE, z8, zw, ym, zU, Int.toNat_natCast, Int.natCast_nonneg, Int.toNat_zero, Int.le_refl, Nat.reduceMul, Nat.zero_mul, Nat.mul_zero, yl, zc, zW, zq, zb, zf, yA, eqD, zo, zK, yp, zH, zk, Nat.le_refl, Array.toList_map, List.size_toArray, List.getElem?_toArray, Nat.sub_zero, List.length_append, Nat.mul_one, zv, yo, bO, bS, z9, ze, zC, List.replicate, zE, zD, y9, allOk, yu, y8, newRow, yM, List.isEmpty, Bool.not_false, Bool.not_true, decide_eq_true_eq, zM, zP, zO, zz, zx, yc, zi, Option.map_some, Option.map_none, Option.isNone, Option.isSome, Option.getD_none, Option.getD_some, yP, zN, zn, Int.reduceToNat, Int.reduceLE, Int.reduceLT, Int.reduceBNe, Int.reduceBEq, tys, cks, e2]
                   rfl
                 · simp only [zd, yF, yD, z0, z5, Nat.reduceLT, Nat.reduceEqDiff, decide_true, decide_false, cond_true, cond_false]
                   rfl
                 · rfl
                 first
                 | (apply y6
                    · simp only [za, z0, Nat.reduceLT, decide_true, cond_true, ins]
                      rfl
                    · simp only [za, z0, Nat.reduceLT, decide_true, cond_true, ins]
                      rfl)
                 | (apply yt
                    · simp only [za, z0, Nat.reduceLT, decide_true, cond_true, ins]
                      rfl))
              | ((first | apply zZ | apply y5)
                 · rfl
                 · simp only [za, z0, Nat.reduceLT, decide_true, cond_true, ins]
                   rfl)
              | (apply zY
                 · simp only [z6, get, z5, Nat.reduceEqDiff, decide_true, decide_false, cond_true, cond_false])
              | (apply zA
                 · simp only [z6, get, z5, Nat.reduceEqDiff, decide_true, decide_false, cond_true, cond_false])
              | (apply yq
                 · kernel_rfl
                 · kernel_rfl)
              | (simp only [bW, if_true, Nat.reduceEqDiff, if_false])
            refine x7 (st1 := ⟨83, [(2, .lref 0 0 3 0), (3, .lref 1 0 1 0), (41, I 2)], [(0, ⟨[yW p], 3, false⟩), (1, ⟨[.sl nf (fs.map xi) sf none], 1, false⟩)], 2, 0⟩) lk18_13 (by kernel_rfl) ?_
            refine yw ?_
            try dsimp only [lp18_13, x8, yN, Tryd.f18]
            simp only [bW, if_true, Nat.reduceEqDiff, if_false]
            repeat' first
              | (intro hb; first | cases hb | skip)
              | ((first | apply zB | apply y7)
                 · rfl
                 · simp (disch := assumption) only [yx, z6, get, z5, z0, Nat.reduceEqDiff, decide_true, decide_false, cond_true, cond_false, yk, zr, zI, yg, zF, Bool.and_true, Bool.true_and, Bool.and_self, Bool.and_false, Bool.false_and, Bool.or_false, Bool.or_true, Bool.false_or, Bool.true_or, Bool.not_true, Bool.not_false, if_true, ye, List.length_cons, List.length_nil, yy, yb, z7, zu, zt, zl, List.getElem?_cons_zero, List.getElem?_cons_succ, Nat.reduceAdd, Nat.zero_add, Nat.add_zero, Nat.one_ne_zero, zT, zs, zp, yC, zG, bP, Ty.isAgg, yB, zX, zR, zm, yh, zh, zV, yj, zg, ofV, zQ, zS, Bool.false_eq_true, if_false, Nat.reduceLeDiff, Nat.reduceLT, List.take, List.drop, List.map_cons, List.map_nil, List.append_nil, List.nil_append, List.cons_append, List.set, unD, yf, snapAll, zy, yi, zJ, zj, yE, z8, zw, ym, zU, Int.toNat_natCast, Int.natCast_nonneg, Int.toNat_zero, Int.le_refl, Nat.reduceMul, Nat.zero_mul, Nat.mul_zero, yl, zc, zW, zq, zb, zf, yA, eqD, zo, zK, yp, zH, zk, Nat.le_refl, Array.toList_map, List.size_toArray, List.getElem?_toArray, Nat.sub_zero, List.length_append, Nat.mul_one, zv, yo, bO, bS, z9, ze, zC, List.replicate, zE, zD, y9, allOk, yu, y8, newRow, yM, List.isEmpty, Bool.not_false, Bool.not_true, decide_eq_true_eq, zM, zP, zO, zz, zx, yc, zi, Option.map_some, Option.map_none, Option.isNone, Option.isSome, Option.getD_none, Option.getD_some, yP, zN, zn, Int.reduceToNat, Int.reduceLE, Int.reduceLT, Int.reduceBNe, Int.reduceBEq, tys, cks]
                   rfl
                 · simp only [zd, yF, yD, z0, z5, Nat.reduceLT, Nat.reduceEqDiff, decide_true, decide_false, cond_true, cond_false]
                   rfl
                 · rfl
                 first
                 | (apply y6
                    · simp only [za, z0, Nat.reduceLT, decide_true, cond_true, ins]
                      rfl
                    · simp only [za, z0, Nat.reduceLT, decide_true, cond_true, ins]
                      rfl)
                 | (apply yt
                    · simp only [za, z0, Nat.reduceLT, decide_true, cond_true, ins]
                      rfl))
              | ((first | apply zZ | apply y5)
                 · rfl
                 · simp only [za, z0, Nat.reduceLT, decide_true, cond_true, ins]
                   rfl)
              | (apply zY
                 · simp only [z6, get, z5, Nat.reduceEqDiff, decide_true, decide_false, cond_true, cond_false])
              | (apply zA
                 · simp only [z6, get, z5, Nat.reduceEqDiff, decide_true, decide_false, cond_true, cond_false])
              | (apply yq
                 · kernel_rfl
                 · kernel_rfl)
              | (simp only [bW, if_true, Nat.reduceEqDiff, if_false])
            simp only [ha0, ha1, Bool.and_self, if_true]
            exact hend 0 _ rfl
          · change factorsFine p fs 1 = false at ha
            simp [ha]
        · change factorsFine p fs 0 = false at ha
          simp [ha]
    · have hne : ((fs.length : Int) != p.sheets) = true := by simp [hlen]
      rw [if_neg (fun h => hlen h.1)]
      refine yR (yG 18) cfn18 rfl (n := 83) rfl ?_
      simp only [bW, if_true, Nat.reduceEqDiff, if_false, yJ]
      repeat' first
        | (intro hb; first | cases hb | skip)
        | ((first | apply zB | apply y7)
           · rfl
           · simp (disch := assumption) only [yx, z6, get, z5, z0, Nat.reduceEqDiff, decide_true, decide_false, cond_true, cond_false, yk, zr, zI, yg, zF, Bool.and_true, Bool.true_and, Bool.and_self, Bool.and_false, Bool.false_and, Bool.or_false, Bool.or_true, Bool.false_or, Bool.true_or, Bool.not_true, Bool.not_false, if_true, ye, List.length_cons, List.length_nil, yy, yb, z7, zu, zt, zl, List.getElem?_cons_zero, List.getElem?_cons_succ, Nat.reduceAdd, Nat.zero_add, Nat.add_zero, Nat.one_ne_zero, zT, zs, zp, yC, zG, bP, Ty.isAgg, yB, zX, zR, zm, yh, zh, zV, yj, zg, ofV, zQ, zS, Bool.false_eq_true, if_false, Nat.reduceLeDiff, Nat.reduceLT, List.take, List.drop, List.map_cons, List.map_nil, List.append_nil, List.nil_append, List.cons_append, List.set, unD, yf, snapAll, zy, yi, zJ, zj, yE, z8, zw, ym, zU, Int.toNat_natCast, Int.natCast_nonneg, Int.toNat_zero, Int.le_refl, Nat.reduceMul, Nat.zero_mul, Nat.mul_zero, yl, zc, zW, zq, zb, zf, yA, eqD, zo, zK, yp, zH, zk, Nat.le_refl, Array.toList_map, List.size_toArray, List.getElem?_toArray, Nat.sub_zero, List.length_append, Nat.mul_one, zv, yo, bO, bS, z9, ze, zC, List.replicate, zE, zD, y9, allOk, yu, y8, newRow, yM, List.isEmpty, Bool.not_false, Bool.not_true, decide_eq_true_eq, zM, zP, zO, zz, zx, yc, zi, Option.map_some, Option.map_none, Option.isNone, Option.isSome, Option.getD_none, Option.getD_some, yP, zN, zn, Int.reduceToNat, Int.reduceLE, Int.reduceLT, Int.reduceBNe, Int.reduceBEq, tys, cks, h15, hlf, hne]
             rfl
           · simp only [zd, yF, yD, z0, z5, Nat.reduceLT, Nat.reduceEqDiff, decide_true, decide_false, cond_true, cond_false]
             rfl
           · rfl
           first
           | (apply y6
              · simp only [za, z0, Nat.reduceLT, decide_true, cond_true, ins]
                rfl
              · simp only [za, z0, Nat.reduceLT, decide_true, cond_true, ins]
                rfl)
           | (apply yt
              · simp only [za, z0, Nat.reduceLT, decide_true, cond_true, ins]
                rfl))
        | ((first | apply zZ | apply y5)
           · rfl
           · simp only [za, z0, Nat.reduceLT, decide_true, cond_true, ins]
             rfl)
        | (apply zY
           · simp only [z6, get, z5, Nat.reduceEqDiff, decide_true, decide_false, cond_true, cond_false])
        | (apply zA
           · simp only [z6, get, z5, Nat.reduceEqDiff, decide_true, decide_false, cond_true, cond_false])
        | (apply yq
           · kernel_rfl
           · kernel_rfl)
        | (simp only [bW, if_true, Nat.reduceEqDiff, if_false])
      all_goals try simp only [xf, finF, yI, yX, zl, get, zG, z5, Nat.reduceEqDiff, decide_true, decide_false, cond_true, cond_false, yV, snapAll, zy, List.getElem?_cons_zero, List.getElem?_cons_succ, bP, Ty.isAgg, if_true, if_false, Bool.false_eq_true, Nat.zero_add, Nat.add_zero, List.length_cons, List.length_nil, Nat.reduceAdd, Nat.reduceLeDiff, List.take, List.drop, Bool.true_and, Bool.and_self, Nat.le_refl, List.map_cons, List.length_map, List.append_nil, List.nil_append, List.cons_append, Nat.sub_zero, bO, bS, tys, Tryd.f18]
      all_goals first | done | rfl | (simp_all []; done) | trace_state

end Go.VS
namespace Go.VS
open Go Go.Proofs
set_option maxHeartbeats 0
set_option linter.unusedSimpArgs false

set_option maxRecDepth 100000
theorem ckI {S : Sm} {objs : List (Nat × Ob)} {nxt : Nat} {args : List D} : yL cfg S objs nxt 62 args = callInl S objs nxt 62 args := by
  simp only [yL, cfg_fn, cfn62]
  rfl
theorem i62 : (lim cfg).inl 62 [] [] 0 = some (.agg [I 2, .lsl 1 0 1 5 (some 1), .lsl 2 0 1 7 (some 1)], [(0, ⟨[.agg [I 2, .lsl 1 0 1 5 (some 1), .lsl 2 0 1 7 (some 1)]], 3, false⟩), (1, ⟨[.agg [I 0, I 0, I 100, I 98, I 1]], 5, false⟩), (2, ⟨[.agg [I 0, I 1, I 0, I 50, I 1, I 100, I 2]], 7, false⟩)], 3) := inl_of (by kernel_rfl)
theorem wf1 : example1.wf := ⟨by simp [example1], by simp [example1], by simp [example1], by simp [example1]⟩
def example2 : Paper := ⟨2, false, [⟨0, 0, 100, 98, 1⟩, ⟨1, 0, 10, 10, 0⟩], false, [⟨0, 1, 0, 50, 1, 100, 2⟩]⟩
theorem wf2 : example2.wf := ⟨by simp [example2], by simp [example2], by simp [example2], by simp [example2]⟩
theorem f20a : (lim cfg).pure 20 [.agg [I 2, .sl false [.agg [I 0, I 0, I 100, I 98, I 1]] 5 none, .sl false [.agg [I 0, I 1, I 0, I 50, I 1, I 100, I 2]] 7 none], I 0, I 0] = some (.tup [.agg [I 97, I 100], .agg [I 99, I 100], I 0]) := (t20 example1 0 0 wf1).trans (by kernel_rfl)
theorem f20b : (lim cfg).pure 20 [.agg [I 2, .sl false [.agg [I 0, I 0, I 100, I 98, I 1]] 5 none, .sl false [.agg [I 0, I 1, I 0, I 50, I 1, I 100, I 2]] 7 none], I 1, I 0] = some (.tup [.agg [I 4753, I 2550], .agg [I 2, I 1], I 0]) := (t20 example1 1 0 wf1).trans (by kernel_rfl)
theorem f19 : (lim cfg).pure 19 [.agg [I 2, .sl false [.agg [I 0, I 0, I 100, I 98, I 1]] 5 none, .sl false [.agg [I 0, I 1, I 0, I 50, I 1, I 100, I 2]] 7 none], I 0, I 1, I 0] = some (.tup [.agg [I 51, I 98], I 0]) := (t19 example1 0 1 0 wf1).trans (by kernel_rfl)
theorem f49 : (lim cfg).pure 49 [.agg [I 2, .sl false [.agg [I 0, I 0, I 100, I 98, I 1]] 5 none, .sl false [.agg [I 0, I 1, I 0, I 50, I 1, I 100, I 2]] 7 none], I 1, I 0, B false] = some (.tup [.sl false [.agg [B false, I 0, B true], .agg [B true, I 0, B false]] 3 none, I 0]) := (t49 example1 1 0 false wf1).trans (by kernel_rfl)
theorem f57 : (lim cfg).pure 57 [.sl false [.agg [B false, I 0, B true], .agg [B true, I 0, B false]] 3 none, .sl false [.agg [B false, I 0, B true], .agg [B true, I 0, B false]] 3 none] = some (B true) :=
  (t57 false false 3 3 [⟨false, 0, true⟩, ⟨true, 0, false⟩] [⟨false, 0, true⟩, ⟨true, 0, false⟩] (by simp) (by simp) (by simp) (by simp) (by simp) (by simp)).trans (by kernel_rfl)
theorem f71 : (lim cfg).pure 71 [.agg [I 2, .sl false [.agg [I 0, I 0, I 100, I 98, I 1]] 5 none, .sl false [.agg [I 0, I 1, I 0, I 50, I 1, I 100, I 2]] 7 none], I 0, .sl false [I 0] 1 none] = some (I 0) := (t71 example1 0 false [0] wf1 1 (by simp) (by simp) (by simp)).trans (by kernel_rfl)
theorem f73 : (lim cfg).pure 73 [.agg [I 2, .sl false [.agg [I 0, I 0, I 100, I 98, I 1]] 5 none, .sl false [.agg [I 0, I 1, I 0, I 50, I 1, I 100, I 2]] 7 none], I 0, I 0] = some (.agg [I 97, I 100, I 99, I 100]) := (t73 example1 0 0 wf1 (by kernel_rfl) (by kernel_rfl)).trans (by kernel_rfl)
theorem f89 : (lim cfg).pure 89 [.agg [I 10, I 10], .agg [I 100, I 99], .agg [I 100, I 97]] = some (.agg [I 10, I 11]) := lim_pure.2 ⟨30, by kernel_rfl⟩
theorem f85 : (lim cfg).pure 85 [.agg [I 10, I 10]] = some (B true) := (t85 ⟨10, 10⟩).trans (by kernel_rfl)
theorem f86 : (lim cfg).pure 86 [.agg [I 2, .sl false [.agg [I 0, I 0, I 100, I 98, I 1]] 5 none, .sl false [.agg [I 0, I 1, I 0, I 50, I 1, I 100, I 2]] 7 none], I 0, I 0, .agg [I 10, I 10]] = some (.agg [I 10, I 11]) := by
  refine yR (yG 86) cfn86 rfl (n := 22) rfl ?_
  simp only [bW, if_true, Nat.reduceEqDiff, if_false, yJ]
  repeat' first
    | (intro hb; first | cases hb | skip)
    | ((first | apply zB | apply y7)
       · rfl
       · simp (disch := assumption) only [yx, z6, get, z5, z0, Nat.reduceEqDiff, decide_true, decide_false, cond_true, cond_false, yk, zr, zI, yg, zF, Bool.and_true, Bool.true_and, Bool.and_self, Bool.and_false, Bool.false_and, Bool.or_false, Bool.or_true, Bool.false_or, Bool.true_or, Bool.not_true, Bool.not_false, if_true, ye, List.length_cons, List.length_nil, yy, yb, z7, zu, zt, zl, List.getElem?_cons_zero, List.getElem?_cons_succ, Nat.reduceAdd, Nat.zero_add, Nat.add_zero, Nat.one_ne_zero, zT, zs, zp, yC, zG, bP, Ty.isAgg, yB, zX, zR, zm, yh, zh, zV, yj, zg, ofV, zQ, zS, Bool.false_eq_true, if_false, Nat.reduceLeDiff, Nat.reduceLT, List.take, List.drop, List.map_cons, List.map_nil, List.append_nil, List.nil_append, List.cons_append, List.set, unD, yf, snapAll, zy, yi, zJ, zj, yE, z8, zw, ym, zU, Int.toNat_natCast, Int.natCast_nonneg, Int.toNat_zero, Int.le_refl, Nat.reduceMul, Nat.zero_mul, Nat.mul_zero, yl, zc, zW, zq, zb, zf, yA, eqD, zo, zK, yp, zH, zk, Nat.le_refl, Array.toList_map, List.size_toArray, List.getElem?_toArray, Nat.sub_zero, List.length_append, Nat.mul_one, zv, yo, bO, bS, z9, ze, zC, List.replicate, zE, zD, y9, allOk, yu, y8, newRow, yM, List.isEmpty, Bool.not_false, Bool.not_true, decide_eq_true_eq, zM, zP, zO, zz, zx, yc, zi, Option.map_some, Option.map_none, Option.isNone, Option.isSome, Option.getD_none, Option.getD_some, yP, zN, zn, Int.reduceToNat, Int.reduceLE, Int.reduceLT, Int.reduceBNe, Int.reduceBEq, tys, cks, f73, t97, f89]
         rfl
       · simp only [zd, yF, yD, z0, z5, Nat.reduceLT, Nat.reduceEqDiff, decide_true, decide_false, cond_true, cond_false]
         rfl
       · rfl
       first
       | (apply y6
          · simp only [za, z0, Nat.reduceLT, decide_true, cond_true, ins]
            rfl
          · simp only [za, z0, Nat.reduceLT, decide_true, cond_true, ins]
            rfl)
       | (apply yt
          · simp only [za, z0, Nat.reduceLT, decide_true, cond_true, ins]
            rfl))
    | ((first | apply zZ | apply y5)
       · rfl
       · simp only [za, z0, Nat.reduceLT, decide_true, cond_true, ins]
         rfl)
    | (apply zY
       · simp only [z6, get, z5, Nat.reduceEqDiff, decide_true, decide_false, cond_true, cond_false])
    | (apply zA
       · simp only [z6, get, z5, Nat.reduceEqDiff, decide_true, decide_false, cond_true, cond_false])
    | (apply yq
       · kernel_rfl
       · kernel_rfl)
    | (simp only [bW, if_true, Nat.reduceEqDiff, if_false])
  all_goals try simp only [xf, finF, yI, yX, zl, get, zG, z5, Nat.reduceEqDiff, decide_true, decide_false, cond_true, cond_false, yV, snapAll, zy, List.getElem?_cons_zero, List.getElem?_cons_succ, bP, Ty.isAgg, if_true, if_false, Bool.false_eq_true, Nat.zero_add, Nat.add_zero, List.length_cons, List.length_nil, Nat.reduceAdd, Nat.reduceLeDiff, List.take, List.drop, Bool.true_and, Bool.and_self, Nat.le_refl, List.map_cons, List.length_map, List.append_nil, List.nil_append, List.cons_append, Nat.sub_zero, bO, bS, tys, Tryd.f86]
  all_goals first | done | rfl | (simp_all []; done) | trace_state

theorem f38 : (lim cfg).pure 38 [.agg [I 2, .sl false [.agg [I 0, I 0, I 100, I 98, I 1]] 5 none, .sl false [.agg [I 0, I 1, I 0, I 50, I 1, I 100, I 2]] 7 none], I 0, I 0, .agg [I 10, I 10]] = some (.tup [.agg [I 10, I 11], I 0]) := by
  refine yR (yG 38) cfn38 rfl (n := 29) rfl ?_
  simp only [bW, if_true, Nat.reduceEqDiff, if_false, yJ]
  repeat' first
    | (intro hb; first | cases hb | skip)
    | ((first | apply zB | apply y7)
       · rfl
       · simp (disch := assumption) only [yx, z6, get, z5, z0, Nat.reduceEqDiff, decide_true, decide_false, cond_true, cond_false, yk, zr, zI, yg, zF, Bool.and_true, Bool.true_and, Bool.and_self, Bool.and_false, Bool.false_and, Bool.or_false, Bool.or_true, Bool.false_or, Bool.true_or, Bool.not_true, Bool.not_false, if_true, ye, List.length_cons, List.length_nil, yy, yb, z7, zu, zt, zl, List.getElem?_cons_zero, List.getElem?_cons_succ, Nat.reduceAdd, Nat.zero_add, Nat.add_zero, Nat.one_ne_zero, zT, zs, zp, yC, zG, bP, Ty.isAgg, yB, zX, zR, zm, yh, zh, zV, yj, zg, ofV, zQ, zS, Bool.false_eq_true, if_false, Nat.reduceLeDiff, Nat.reduceLT, List.take, List.drop, List.map_cons, List.map_nil, List.append_nil, List.nil_append, List.cons_append, List.set, unD, yf, snapAll, zy, yi, zJ, zj, yE, z8, zw, ym, zU, Int.toNat_natCast, Int.natCast_nonneg, Int.toNat_zero, Int.le_refl, Nat.reduceMul, Nat.zero_mul, Nat.mul_zero, yl, zc, zW, zq, zb, zf, yA, eqD, zo, zK, yp, zH, zk, Nat.le_refl, Array.toList_map, List.size_toArray, List.getElem?_toArray, Nat.sub_zero, List.length_append, Nat.mul_one, zv, yo, bO, bS, z9, ze, zC, List.replicate, zE, zD, y9, allOk, yu, y8, newRow, yM, List.isEmpty, Bool.not_false, Bool.not_true, decide_eq_true_eq, zM, zP, zO, zz, zx, yc, zi, Option.map_some, Option.map_none, Option.isNone, Option.isSome, Option.getD_none, Option.getD_some, yP, zN, zn, Int.reduceToNat, Int.reduceLE, Int.reduceLT, Int.reduceBNe, Int.reduceBEq, tys, cks, f71, f85, f86, show ((0 : Int) != 0) = false from rfl]
         rfl
       · simp only [zd, yF, yD, z0, z5, Nat.reduceLT, Nat.reduceEqDiff, decide_true, decide_false, cond_true, cond_false]
         rfl
       · rfl
       first
       | (apply y6
          · simp only [za, z0, Nat.reduceLT, decide_true, cond_true, ins]
            rfl
          · simp only [za, z0, Nat.reduceLT, decide_true, cond_true, ins]
            rfl)
       | (apply yt
          · simp only [za, z0, Nat.reduceLT, decide_true, cond_true, ins]
            rfl))
    | ((first | apply zZ | apply y5)
       · rfl
       · simp only [za, z0, Nat.reduceLT, decide_true, cond_true, ins]
         rfl)
    | (apply zY
       · simp only [z6, get, z5, Nat.reduceEqDiff, decide_true, decide_false, cond_true, cond_false])
    | (apply zA
       · simp only [z6, get, z5, Nat.reduceEqDiff, decide_true, decide_false, cond_true, cond_false])
    | (apply yq
       · kernel_rfl
       · kernel_rfl)
    | (simp only [bW, if_true, Nat.reduceEqDiff, if_false])
  all_goals try simp only [xf, finF, yI, yX, zl, get, zG, z5, Nat.reduceEqDiff, decide_true, decide_false, cond_true, cond_false, yV, snapAll, zy, List.getElem?_cons_zero, List.getElem?_cons_succ, bP, Ty.isAgg, if_true, if_false, Bool.false_eq_true, Nat.zero_add, Nat.add_zero, List.length_cons, List.length_nil, Nat.reduceAdd, Nat.reduceLeDiff, List.take, List.drop, Bool.true_and, Bool.and_self, Nat.le_refl, List.map_cons, List.length_map, List.append_nil, List.nil_append, List.cons_append, Nat.sub_zero, bO, bS, tys, Tryd.f38]
  all_goals first | done | rfl | (simp_all []; done) | trace_state

theorem f18 : (lim cfg).pure 18 [.agg [I 2, .sl false [.agg [I 0, I 0, I 100, I 98, I 1]] 5 none, .sl false [.agg [I 0, I 1, I 0, I 50, I 1, I 100, I 2]] 7 none], .sl false [.agg [I 98, I 100, I 1, I 1], .agg [I 196, I 100, I 1, I 1]] 4 none] = some (I 0) := (t18 example1 [⟨98, 100, 1, 1⟩, ⟨196, 100, 1, 1⟩] false 4 wf1 (by simp) (by simp) (by simp)).trans (by kernel_rfl)
theorem f30 : (lim cfg).pure 30 [.agg [I 2, .sl false [.agg [I 0, I 0, I 100, I 98, I 1], .agg [I 1, I 0, I 10, I 10, I 0]] 5 none, .sl false [.agg [I 0, I 1, I 0, I 50, I 1, I 100, I 2]] 7 none]] = some (.tup [B false, I 0]) := (t30 example2 wf2).trans (by kernel_rfl)
theorem f48 : (lim cfg).pure 48 [.agg [I 2, .sl false [.agg [I 0, I 0, I 100, I 98, I 1], .agg [I 1, I 0, I 10, I 10, I 0]] 5 none, .sl false [.agg [I 0, I 1, I 0, I 50, I 1, I 100, I 2]] 7 none]] = some (clashD (clashR example2)) := (t48 example2 wf2).trans (by kernel_rfl)
theorem f48' : ∃ w r, (lim cfg).pure 48 [.agg [I 2, .sl false [.agg [I 0, I 0, I 100, I 98, I 1], .agg [I 1, I 0, I 10, I 10, I 0]] 5 none, .sl false [.agg [I 0, I 1, I 0, I 50, I 1, I 100, I 2]] 7 none]] = some (.tup [.sl false (List.map encW (w :: r)) 3 none, B true, I 0]) := by
  have h : ((clashR example2).map fun c => c.why.isEmpty) = some false := by kernel_rfl
  rw [f48]
  cases hc : clashR example2 with
  | none => rw [hc] at h; cases h
  | some c =>
    rw [hc] at h
    obtain ⟨q, ws⟩ := c
    cases ws with
    | nil => simp at h
    | cons w r => exact ⟨w, r, rfl⟩
theorem f15 : (lim cfg).pure 15 [.agg [I 0, .sl true [] 0 none, .sl true [] 0 none]] = some (I 30) := lim_pure.2 ⟨30, by kernel_rfl⟩

theorem t14 : (lim cfg).pure 14 [] = some (B true) := by
  obtain ⟨w, r, hf48⟩ := f48'
  refine yR (yG 14) cfn14 rfl (n := 153) rfl ?_
  simp only [bW, if_true, Nat.reduceEqDiff, if_false, yJ]
  repeat' first
    | (intro hb; first | cases hb | skip)
    | ((first | apply zB | apply y7)
       · rfl
       · simp (disch := assumption) only [yx, z6, get, z5, z0, Nat.reduceEqDiff, decide_true, decide_false, cond_true, cond_false, yk, zr, zI, yg, zF, Bool.and_true, Bool.true_and, Bool.and_self, Bool.and_false, Bool.false_and, Bool.or_false, Bool.or_true, Bool.false_or, Bool.true_or, Bool.not_true, Bool.not_false, if_true, ye, List.length_cons, List.length_nil, yy, yb, z7, zu, zt, zl, List.getElem?_cons_zero, List.getElem?_cons_succ, Nat.reduceAdd, Nat.zero_add, Nat.add_zero, Nat.one_ne_zero, zT, zs, zp, yC, zG, bP, Ty.isAgg, yB, zX, zR, zm, yh, zh, zV, yj, zg, ofV, zQ, zS, Bool.false_eq_true, if_false, Nat.reduceLeDiff, Nat.reduceLT, List.take, List.drop, List.map_cons, List.map_nil, List.append_nil, List.nil_append, List.cons_append, List.set, unD, yf, snapAll, zy, yi, zJ, zj, yE, z8, zw, ym, zU, Int.toNat_natCast, Int.natCast_nonneg, Int.toNat_zero, Int.le_refl, Nat.reduceMul, Nat.zero_mul, Nat.mul_zero, yl, zc, zW, zq, zb, zf, yA, eqD, zo, zK, yp, zH, zk, Nat.le_refl, Array.toList_map, List.size_toArray, List.getElem?_toArray, Nat.sub_zero, List.length_append, Nat.mul_one, zv, yo, bO, bS, z9, ze, zC, List.replicate, zE, zD, y9, allOk, yu, y8, newRow, yM, List.isEmpty, Bool.not_false, Bool.not_true, decide_eq_true_eq, zM, zP, zO, zz, zx, yc, zi, Option.map_some, Option.map_none, Option.isNone, Option.isSome, Option.getD_none, Option.getD_some, yP, zN, zn, Int.reduceToNat, Int.reduceLE, Int.reduceLT, Int.reduceBNe, Int.reduceBEq, tys, cks, ckI, i62, callInl, yS, yO, allBelow, only, keysO, allUpd, ids_val, ids_sl, ids_lsl, ids_lref, ids_agg, idsL, memN, Nat.lt_irrefl, Nat.reduceLT, f20a, f20b, f19, f49, f57, t21, encR, f38, f18, f30, hf48, f15, whyD_one, snap_whyD, show ((0 : Int) != 0) = false from rfl]
         rfl
       · simp only [zd, yF, yD, z0, z5, Nat.reduceLT, Nat.reduceEqDiff, decide_true, decide_false, cond_true, cond_false]
         rfl
       · rfl
       first
       | (apply y6
          · simp only [za, z0, Nat.reduceLT, decide_true, cond_true, ins]
            rfl
          · simp only [za, z0, Nat.reduceLT, decide_true, cond_true, ins]
            rfl)
       | (apply yt
          · simp only [za, z0, Nat.reduceLT, decide_true, cond_true, ins]
            rfl))
    | ((first | apply zZ | apply y5)
       · rfl
       · simp only [za, z0, Nat.reduceLT, decide_true, cond_true, ins]
         rfl)
    | (apply zY
       · simp only [z6, get, z5, Nat.reduceEqDiff, decide_true, decide_false, cond_true, cond_false])
    | (apply zA
       · simp only [z6, get, z5, Nat.reduceEqDiff, decide_true, decide_false, cond_true, cond_false])
    | (apply yq
       · kernel_rfl
       · kernel_rfl)
    | (simp only [bW, if_true, Nat.reduceEqDiff, if_false])
  all_goals try simp only [xf, finF, yI, yX, zl, get, zG, z5, Nat.reduceEqDiff, decide_true, decide_false, cond_true, cond_false, yV, snapAll, zy, List.getElem?_cons_zero, List.getElem?_cons_succ, bP, Ty.isAgg, if_true, if_false, Bool.false_eq_true, Nat.zero_add, Nat.add_zero, List.length_cons, List.length_nil, Nat.reduceAdd, Nat.reduceLeDiff, List.take, List.drop, Bool.true_and, Bool.and_self, Nat.le_refl, List.map_cons, List.length_map, List.append_nil, List.nil_append, List.cons_append, Nat.sub_zero, bO, bS, tys, Tryd.f14]
  all_goals first | done | rfl | (simp_all []; done) | trace_state

end Go.VS
