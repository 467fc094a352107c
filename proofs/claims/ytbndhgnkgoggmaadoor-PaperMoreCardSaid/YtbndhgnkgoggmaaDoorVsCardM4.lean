/- Nothing of a statement is proved in this text alone: it is part 4 of the proof's own tools, an evaluator of the code over deep values, its soundness, and what it makes of this seat's functions. Conditions: none beyond the statement's own. -/
import Derived.Test.YtbndhgnkgoggmaaDoorVsCardM3
set_option linter.unusedSimpArgs false
set_option linter.unusedVariables false
namespace Go.VS
open Go Go.Proofs
set_option maxHeartbeats 0
set_option linter.unusedSimpArgs false

theorem okW : EncOK 3 encW := ⟨fun _ _ _ => rfl, fun _ _ => rfl, fun _ _ _ => rfl, fun _ => ⟨rfl, rfl⟩⟩
def idxs (b : Bool) : Nat → Nat → List Reason
  | _, 0 => []
  | i, m + 1 => ⟨b, (i : Nat), false⟩ :: idxs b (i + 1) m
theorem idxs_succ (b : Bool) {i m : Nat} : idxs b i (m + 1) = ⟨b, (i : Nat), false⟩ :: idxs b (i + 1) m := rfl
theorem idxs_len {b : Bool} : ∀ {m i : Nat}, (idxs b i m).length = m
  | 0, _ => rfl
  | m + 1, i => by simp [idxs, idxs_len]
def reasF (p : Paper) : List Reason := idxs false 0 p.marks.length ++ idxs true 0 p.joins.length
/-- A slice of reasons, nil where there are none. -/
theorem gS_W (l : List Reason) : gS 3 encW l = .sl l.isEmpty (l.map encW) (zs l.isEmpty 3) none := by cases l <;> rfl
theorem len_gsW (l : List Reason) (hl : l.length ≤ 1000000) : lenT cfg #[70] (gS 3 encW l) = some (I l.length) := by
  cases l with
  | nil => rfl
  | cons _ _ =>
    simp only [go_sem, gS, List.length_map]

noncomputable def lp102_2 : Code := zB [1, 0, 1, 0, 0] (zo Tryd.f102)
theorem lk102_2 : cfg.keep 102 (zD lp102_2) = [1, 2, 7, 8] := by kernel_rfl
noncomputable def lp102_7 : Code := zB [1, 1, 0, 1, 0, 0] (zo Tryd.f102)
theorem lk102_7 : cfg.keep 102 (zD lp102_7) = [2, 19, 20] := by kernel_rfl

theorem L102_2 {F : Exit → St → Option D} (p : Paper) (k : List Kt) (x : D) (hle0 : p.marks.length ≤ 1000) : ∀ (m i : Nat) (acc : List Reason), i + m = p.marks.length → acc.length + m ≤ 3000 →
    (zO cfg (lim cfg) 102 F k (.exit 0) ⟨30, [(9, B false), (1, .lref 0 0 3 0), (2, gD 1 3 (acc ++ idxs false i m)), (7, I p.marks.length), (8, I (p.marks.length : Nat))], (0, ⟨[zh p], 3, false⟩) :: gO 1 3 encW (acc ++ idxs false i m), gN 1 (acc ++ idxs false i m), 0⟩ = some x) →
    EvL cfg (lim cfg) 102 F lp102_2 k ⟨30, [(1, .lref 0 0 3 0), (2, gD 1 3 (acc)), (7, I p.marks.length), (8, I (i : Nat))], (0, ⟨[zh p], 3, false⟩) :: gO 1 3 encW (acc), gN 1 (acc), 0⟩ = some x := by
  intro m
  induction m with
  | zero =>
    intro i acc hi he h
    have hi' : i = p.marks.length := by omega
    subst hi'
    rw [idxs, List.append_nil] at h
    refine zv ?_
    try dsimp only [lp102_2, zB, zo, Tryd.f102]
    simp only [bW, if_true, Nat.reduceEqDiff, if_false]
    repeat' first | (intro hb; first | cases hb | skip) | ((first | apply z6 | apply zc); (· rfl); (· simp (disch := assumption) only [go_sem, Nat.reduceEqDiff, Nat.reduceAdd, bP, zd, Nat.reduceLeDiff, Nat.reduceLT, Nat.reduceMul, List.length_append, decide_eq_true_eq, z7, z0, Int.reduceToNat, Int.reduceLE, Int.reduceLT, Int.reduceBNe, Int.reduceBEq, Int.lt_irrefl]; rfl); (· simp only [go_sem, Nat.reduceLT, Nat.reduceEqDiff]; rfl); (· rfl); first | (apply zb; (· simp only [go_sem, Nat.reduceLT]; rfl); (· simp only [go_sem, Nat.reduceLT]; rfl)) | (apply zf; (· simp only [go_sem, Nat.reduceLT]; rfl))) | ((first | apply z9 | apply za); (· rfl); (· simp only [go_sem, Nat.reduceLT]; rfl)) | (apply z8; (· simp only [go_sem, Nat.reduceEqDiff])) | (apply z5; (· simp only [go_sem, Nat.reduceEqDiff])) | (apply ze; (· kernel_rfl); (· kernel_rfl)) | (simp only [bW, if_true, Nat.reduceEqDiff, if_false])
    exact h
  | succ m ih =>
    intro i acc hi he h
    have hlt' : (i : Int) < (p.marks.length : Int) := by omega
    have hw3 : IntKind.i64.wrap ((i : Int) + 1) = ((i + 1 : Nat) : Int) := by rw [wrap_i64 (by omega) (by omega)]; omega
    cases acc with
    | nil =>
      rw [List.nil_append] at h
      simp only [gD, gO, gN]
      refine zv ?_
      try dsimp only [lp102_2, zB, zo, Tryd.f102]
      simp only [bW, if_true, Nat.reduceEqDiff, if_false]
      repeat' first | (intro hb; first | cases hb | skip) | ((first | apply z6 | apply zc); (· rfl); (· simp (disch := assumption) only [go_sem, Nat.reduceEqDiff, Nat.reduceAdd, bP, zd, Nat.reduceLeDiff, Nat.reduceLT, Nat.reduceMul, List.length_append, decide_eq_true_eq, z7, z0, Int.reduceToNat, Int.reduceLE, Int.reduceLT, Int.reduceBNe, Int.reduceBEq, hlt', hw3, okW.allOk, Nat.zero_lt_succ, List.length_map]; rfl); (· simp only [go_sem, Nat.reduceLT, Nat.reduceEqDiff]; rfl); (· rfl); first | (apply zb; (· simp only [go_sem, Nat.reduceLT]; rfl); (· simp only [go_sem, Nat.reduceLT]; rfl)) | (apply zf; (· simp only [go_sem, Nat.reduceLT]; rfl))) | ((first | apply z9 | apply za); (· rfl); (· simp only [go_sem, Nat.reduceLT]; rfl)) | (apply z8; (· simp only [go_sem, Nat.reduceEqDiff])) | (apply z5; (· simp only [go_sem, Nat.reduceEqDiff])) | (apply ze; (· kernel_rfl); (· kernel_rfl)) | (simp only [bW, if_true, Nat.reduceEqDiff, if_false])
      refine zM (st1 := ⟨30, [(1, .lref 0 0 3 0), (2, gD 1 3 (([]) ++ [Reason.mk false (i : Nat) false])), (7, I p.marks.length), (8, I (i + 1 : Nat))], (0, ⟨[zh p], 3, false⟩) :: gO 1 3 encW (([]) ++ [Reason.mk false (i : Nat) false]), gN 1 (([]) ++ [Reason.mk false (i : Nat) false]), 0⟩) lk102_2 (by
        simp only [go_sem, List.map_append, Nat.reduceEqDiff, Nat.reduceLT, Nat.reduceAdd, bI, bD, bI2, okW.renL, okW.idsL, okW.idsL_app, gD, gO, gN, zh, encW, List.length_append]
        try rfl) (ih (i + 1) (([]) ++ [Reason.mk false (i : Nat) false]) (by omega) (by simp at he ⊢; omega) (by rw [idxs_succ false] at h; simpa using h))
    | cons e r =>
      simp only [List.length_cons] at he
      have hle : (r.length + 1 + 1 ≤ r.length + 1) = False := by simp
      have hb1 : ((r.length + 1 + 1) * 24 ≤ big) = True := by simp [big]; omega
      have hb2 : (r.length + 1 + 1 ≤ big) = True := by simp [big]; omega
      have hao : allOk 3 (encW e :: List.map encW r) = true := okW.allOk (e :: r)
      simp only [gD, gO, gN, List.map_cons]
      refine zv ?_
      try dsimp only [lp102_2, zB, zo, Tryd.f102]
      simp only [bW, if_true, Nat.reduceEqDiff, if_false]
      repeat' first | (intro hb; first | cases hb | skip) | ((first | apply z6 | apply zc); (· rfl); (· simp (disch := assumption) only [go_sem, Nat.reduceEqDiff, Nat.reduceAdd, bP, zd, Nat.reduceLeDiff, Nat.reduceLT, Nat.reduceMul, List.length_append, decide_eq_true_eq, z7, z0, Int.reduceToNat, Int.reduceLE, Int.reduceLT, Int.reduceBNe, Int.reduceBEq, hlt', hw3, okW.allOk, Nat.zero_lt_succ, List.length_map, hle, hb1, hb2, hao]; rfl); (· simp only [go_sem, Nat.reduceLT, Nat.reduceEqDiff]; rfl); (· rfl); first | (apply zb; (· simp only [go_sem, Nat.reduceLT]; rfl); (· simp only [go_sem, Nat.reduceLT]; rfl)) | (apply zf; (· simp only [go_sem, Nat.reduceLT]; rfl))) | ((first | apply z9 | apply za); (· rfl); (· simp only [go_sem, Nat.reduceLT]; rfl)) | (apply z8; (· simp only [go_sem, Nat.reduceEqDiff])) | (apply z5; (· simp only [go_sem, Nat.reduceEqDiff])) | (apply ze; (· kernel_rfl); (· kernel_rfl)) | (simp only [bW, if_true, Nat.reduceEqDiff, if_false])
      refine zM (st1 := ⟨30, [(1, .lref 0 0 3 0), (2, gD 1 3 ((e :: r) ++ [Reason.mk false (i : Nat) false])), (7, I p.marks.length), (8, I (i + 1 : Nat))], (0, ⟨[zh p], 3, false⟩) :: gO 1 3 encW ((e :: r) ++ [Reason.mk false (i : Nat) false]), gN 1 ((e :: r) ++ [Reason.mk false (i : Nat) false]), 0⟩) lk102_2 (by
        simp only [go_sem, List.map_append, Nat.reduceEqDiff, Nat.reduceLT, Nat.reduceAdd, bI, bD, bI2, okW.renL, okW.idsL, okW.idsL_app, gD, gO, gN, zh, encW, List.length_append]
        try rfl) (ih (i + 1) ((e :: r) ++ [Reason.mk false (i : Nat) false]) (by omega) (by simp at he ⊢; omega) (by rw [idxs_succ false] at h; simpa using h))

theorem L102_7 {F : Exit → St → Option D} (p : Paper) (k : List Kt) (x : D) (hle0 : p.joins.length ≤ 1000) : ∀ (m i : Nat) (acc : List Reason), i + m = p.joins.length → acc.length + m ≤ 3000 →
    (zO cfg (lim cfg) 102 F k (.exit 2) ⟨30, [(21, B false), (2, gD 0 3 (acc ++ idxs true i m)), (19, I p.joins.length), (20, I (p.joins.length : Nat))], gO 0 3 encW (acc ++ idxs true i m), gN 0 (acc ++ idxs true i m), 0⟩ = some x) →
    EvL cfg (lim cfg) 102 F lp102_7 k ⟨30, [(2, gD 0 3 (acc)), (19, I p.joins.length), (20, I (i : Nat))], gO 0 3 encW (acc), gN 0 (acc), 0⟩ = some x := by
  intro m
  induction m with
  | zero =>
    intro i acc hi he h
    have hi' : i = p.joins.length := by omega
    subst hi'
    rw [idxs, List.append_nil] at h
    refine zv ?_
    try dsimp only [lp102_7, zB, zo, Tryd.f102]
    simp only [bW, if_true, Nat.reduceEqDiff, if_false]
    repeat' first | (intro hb; first | cases hb | skip) | ((first | apply z6 | apply zc); (· rfl); (· simp (disch := assumption) only [go_sem, Nat.reduceEqDiff, Nat.reduceAdd, bP, zd, Nat.reduceLeDiff, Nat.reduceLT, Nat.reduceMul, List.length_append, decide_eq_true_eq, z7, z0, Int.reduceToNat, Int.reduceLE, Int.reduceLT, Int.reduceBNe, Int.reduceBEq, Int.lt_irrefl]; rfl); (· simp only [go_sem, Nat.reduceLT, Nat.reduceEqDiff]; rfl); (· rfl); first | (apply zb; (· simp only [go_sem, Nat.reduceLT]; rfl); (· simp only [go_sem, Nat.reduceLT]; rfl)) | (apply zf; (· simp only [go_sem, Nat.reduceLT]; rfl))) | ((first | apply z9 | apply za); (· rfl); (· simp only [go_sem, Nat.reduceLT]; rfl)) | (apply z8; (· simp only [go_sem, Nat.reduceEqDiff])) | (apply z5; (· simp only [go_sem, Nat.reduceEqDiff])) | (apply ze; (· kernel_rfl); (· kernel_rfl)) | (simp only [bW, if_true, Nat.reduceEqDiff, if_false])
    exact h
  | succ m ih =>
    intro i acc hi he h
    have hlt' : (i : Int) < (p.joins.length : Int) := by omega
    have hw3 : IntKind.i64.wrap ((i : Int) + 1) = ((i + 1 : Nat) : Int) := by rw [wrap_i64 (by omega) (by omega)]; omega
    cases acc with
    | nil =>
      rw [List.nil_append] at h
      simp only [gD, gO, gN]
      refine zv ?_
      try dsimp only [lp102_7, zB, zo, Tryd.f102]
      simp only [bW, if_true, Nat.reduceEqDiff, if_false]
      repeat' first | (intro hb; first | cases hb | skip) | ((first | apply z6 | apply zc); (· rfl); (· simp (disch := assumption) only [go_sem, Nat.reduceEqDiff, Nat.reduceAdd, bP, zd, Nat.reduceLeDiff, Nat.reduceLT, Nat.reduceMul, List.length_append, decide_eq_true_eq, z7, z0, Int.reduceToNat, Int.reduceLE, Int.reduceLT, Int.reduceBNe, Int.reduceBEq, hlt', hw3, okW.allOk, Nat.zero_lt_succ, List.length_map]; rfl); (· simp only [go_sem, Nat.reduceLT, Nat.reduceEqDiff]; rfl); (· rfl); first | (apply zb; (· simp only [go_sem, Nat.reduceLT]; rfl); (· simp only [go_sem, Nat.reduceLT]; rfl)) | (apply zf; (· simp only [go_sem, Nat.reduceLT]; rfl))) | ((first | apply z9 | apply za); (· rfl); (· simp only [go_sem, Nat.reduceLT]; rfl)) | (apply z8; (· simp only [go_sem, Nat.reduceEqDiff])) | (apply z5; (· simp only [go_sem, Nat.reduceEqDiff])) | (apply ze; (· kernel_rfl); (· kernel_rfl)) | (simp only [bW, if_true, Nat.reduceEqDiff, if_false])
      refine zM (st1 := ⟨30, [(2, gD 0 3 (([]) ++ [Reason.mk true (i : Nat) false])), (19, I p.joins.length), (20, I (i + 1 : Nat))], gO 0 3 encW (([]) ++ [Reason.mk true (i : Nat) false]), gN 0 (([]) ++ [Reason.mk true (i : Nat) false]), 0⟩) lk102_7 (by
        simp only [go_sem, List.map_append, Nat.reduceEqDiff, Nat.reduceLT, Nat.reduceAdd, bI, bD, bI2, okW.renL, okW.idsL, okW.idsL_app, gD, gO, gN, zh, encW, List.length_append]
        try rfl) (ih (i + 1) (([]) ++ [Reason.mk true (i : Nat) false]) (by omega) (by simp at he ⊢; omega) (by rw [idxs_succ true] at h; simpa using h))
    | cons e r =>
      simp only [List.length_cons] at he
      have hle : (r.length + 1 + 1 ≤ r.length + 1) = False := by simp
      have hb1 : ((r.length + 1 + 1) * 24 ≤ big) = True := by simp [big]; omega
      have hb2 : (r.length + 1 + 1 ≤ big) = True := by simp [big]; omega
      have hao : allOk 3 (encW e :: List.map encW r) = true := okW.allOk (e :: r)
      simp only [gD, gO, gN, List.map_cons]
      refine zv ?_
      try dsimp only [lp102_7, zB, zo, Tryd.f102]
      simp only [bW, if_true, Nat.reduceEqDiff, if_false]
      repeat' first | (intro hb; first | cases hb | skip) | ((first | apply z6 | apply zc); (· rfl); (· simp (disch := assumption) only [go_sem, Nat.reduceEqDiff, Nat.reduceAdd, bP, zd, Nat.reduceLeDiff, Nat.reduceLT, Nat.reduceMul, List.length_append, decide_eq_true_eq, z7, z0, Int.reduceToNat, Int.reduceLE, Int.reduceLT, Int.reduceBNe, Int.reduceBEq, hlt', hw3, okW.allOk, Nat.zero_lt_succ, List.length_map, hle, hb1, hb2, hao]; rfl); (· simp only [go_sem, Nat.reduceLT, Nat.reduceEqDiff]; rfl); (· rfl); first | (apply zb; (· simp only [go_sem, Nat.reduceLT]; rfl); (· simp only [go_sem, Nat.reduceLT]; rfl)) | (apply zf; (· simp only [go_sem, Nat.reduceLT]; rfl))) | ((first | apply z9 | apply za); (· rfl); (· simp only [go_sem, Nat.reduceLT]; rfl)) | (apply z8; (· simp only [go_sem, Nat.reduceEqDiff])) | (apply z5; (· simp only [go_sem, Nat.reduceEqDiff])) | (apply ze; (· kernel_rfl); (· kernel_rfl)) | (simp only [bW, if_true, Nat.reduceEqDiff, if_false])
      refine zM (st1 := ⟨30, [(2, gD 0 3 ((e :: r) ++ [Reason.mk true (i : Nat) false])), (19, I p.joins.length), (20, I (i + 1 : Nat))], gO 0 3 encW ((e :: r) ++ [Reason.mk true (i : Nat) false]), gN 0 ((e :: r) ++ [Reason.mk true (i : Nat) false]), 0⟩) lk102_7 (by
        simp only [go_sem, List.map_append, Nat.reduceEqDiff, Nat.reduceLT, Nat.reduceAdd, bI, bD, bI2, okW.renL, okW.idsL, okW.idsL_app, gD, gO, gN, zh, encW, List.length_append]
        try rfl) (ih (i + 1) ((e :: r) ++ [Reason.mk true (i : Nat) false]) (by omega) (by simp at he ⊢; omega) (by rw [idxs_succ true] at h; simpa using h))

theorem t102 (p : Paper) (hwf : p.wf) (h1 : p.marks.length ≤ 1000) (h2 : p.joins.length ≤ 1000) : (lim cfg).pure 102 [zh p] = some (gS 3 encW (reasF p)) := by
  have hlm := len_if (f := zm) hwf.1
  have hlj := len_if (f := zj) hwf.2.1
  refine zp (zk 102) cfn102 rfl (n := 30) rfl ?_
  generalize hF : finP cfg Tryd.f102 = F
  simp only [bW, if_true, Nat.reduceEqDiff, if_false, zi]
  repeat' first | (intro hb; first | cases hb | skip) | ((first | apply z6 | apply zc); (· rfl); (· simp (disch := assumption) only [go_sem, Nat.reduceEqDiff, Nat.reduceAdd, bP, zd, Nat.reduceLeDiff, Nat.reduceLT, Nat.reduceMul, List.length_append, decide_eq_true_eq, z7, z0, Int.reduceToNat, Int.reduceLE, Int.reduceLT, Int.reduceBNe, Int.reduceBEq, hlm]; rfl); (· simp only [go_sem, Nat.reduceLT, Nat.reduceEqDiff]; rfl); (· rfl); first | (apply zb; (· simp only [go_sem, Nat.reduceLT]; rfl); (· simp only [go_sem, Nat.reduceLT]; rfl)) | (apply zf; (· simp only [go_sem, Nat.reduceLT]; rfl))) | ((first | apply z9 | apply za); (· rfl); (· simp only [go_sem, Nat.reduceLT]; rfl)) | (apply z8; (· simp only [go_sem, Nat.reduceEqDiff])) | (apply z5; (· simp only [go_sem, Nat.reduceEqDiff])) | (apply ze; (· kernel_rfl); (· kernel_rfl)) | (simp only [bW, if_true, Nat.reduceEqDiff, if_false])
  refine w_loop (st1 := ⟨30, [(1, .lref 0 0 3 0), (2, gD 1 3 (([] : List Reason))), (7, I p.marks.length), (8, I (0 : Nat))], (0, ⟨[zh p], 3, false⟩) :: gO 1 3 encW (([] : List Reason)), gN 1 (([] : List Reason)), 0⟩) lk102_2 (by
    simp only [go_sem, List.map_append, Nat.reduceEqDiff, Nat.reduceLT, Nat.reduceAdd, bI, bD, bI2, zh]
    try rfl) (L102_2 p _ _ h1 p.marks.length 0 [] (by simp) (by simp; omega) ?_)
  rw [List.nil_append]
  have hl1 : (idxs false 0 p.marks.length).length = p.marks.length := idxs_len
  unfold reasF
  generalize idxs false 0 p.marks.length = A at *
  cases A with
  | nil =>
    simp only [gD, gO, gN]
    simp only [bW, if_true, Nat.reduceEqDiff, if_false]
    repeat' first | (intro hb; first | cases hb | skip) | ((first | apply z6 | apply zc); (· rfl); (· simp (disch := assumption) only [go_sem, Nat.reduceEqDiff, Nat.reduceAdd, bP, zd, Nat.reduceLeDiff, Nat.reduceLT, Nat.reduceMul, List.length_append, decide_eq_true_eq, z7, z0, Int.reduceToNat, Int.reduceLE, Int.reduceLT, Int.reduceBNe, Int.reduceBEq, hlj]; rfl); (· simp only [go_sem, Nat.reduceLT, Nat.reduceEqDiff]; rfl); (· rfl); first | (apply zb; (· simp only [go_sem, Nat.reduceLT]; rfl); (· simp only [go_sem, Nat.reduceLT]; rfl)) | (apply zf; (· simp only [go_sem, Nat.reduceLT]; rfl))) | ((first | apply z9 | apply za); (· rfl); (· simp only [go_sem, Nat.reduceLT]; rfl)) | (apply z8; (· simp only [go_sem, Nat.reduceEqDiff])) | (apply z5; (· simp only [go_sem, Nat.reduceEqDiff])) | (apply ze; (· kernel_rfl); (· kernel_rfl)) | (simp only [bW, if_true, Nat.reduceEqDiff, if_false])
    refine w_loop (st1 := ⟨30, [(2, gD 0 3 (([] : List Reason))), (19, I p.joins.length), (20, I (0 : Nat))], gO 0 3 encW (([] : List Reason)), gN 0 (([] : List Reason)), 0⟩) lk102_7 (by
      simp only [go_sem, List.map_append, Nat.reduceEqDiff, Nat.reduceLT, Nat.reduceAdd, bI, bD, bI2, zh, okW.renL, okW.idsL, okW.ids, okW.ren, gD, gO, gN]
      try rfl) (L102_7 p _ _ h2 p.joins.length 0 (([] : List Reason)) (by simp) (by simp at hl1 ⊢; omega) ?_)
    generalize (([] : List Reason)) ++ idxs true 0 p.joins.length = R
    cases R with
    | nil =>
      simp only [gD, gO, gN, gS]
      simp only [bW, if_true, Nat.reduceEqDiff, if_false]
      repeat' first | (intro hb; first | cases hb | skip) | ((first | apply z6 | apply zc); (· rfl); (· simp (disch := assumption) only [go_sem, Nat.reduceEqDiff, Nat.reduceAdd, bP, zd, Nat.reduceLeDiff, Nat.reduceLT, Nat.reduceMul, List.length_append, decide_eq_true_eq, z7, z0, Int.reduceToNat, Int.reduceLE, Int.reduceLT, Int.reduceBNe, Int.reduceBEq]; rfl); (· simp only [go_sem, Nat.reduceLT, Nat.reduceEqDiff]; rfl); (· rfl); first | (apply zb; (· simp only [go_sem, Nat.reduceLT]; rfl); (· simp only [go_sem, Nat.reduceLT]; rfl)) | (apply zf; (· simp only [go_sem, Nat.reduceLT]; rfl))) | ((first | apply z9 | apply za); (· rfl); (· simp only [go_sem, Nat.reduceLT]; rfl)) | (apply z8; (· simp only [go_sem, Nat.reduceEqDiff])) | (apply z5; (· simp only [go_sem, Nat.reduceEqDiff])) | (apply ze; (· kernel_rfl); (· kernel_rfl)) | (simp only [bW, if_true, Nat.reduceEqDiff, if_false])
      subst hF
      rfl
    | cons w r =>
      simp only [gD, gO, gN, gS]
      simp only [bW, if_true, Nat.reduceEqDiff, if_false]
      repeat' first | (intro hb; first | cases hb | skip) | ((first | apply z6 | apply zc); (· rfl); (· simp (disch := assumption) only [go_sem, Nat.reduceEqDiff, Nat.reduceAdd, bP, zd, Nat.reduceLeDiff, Nat.reduceLT, Nat.reduceMul, List.length_append, decide_eq_true_eq, z7, z0, Int.reduceToNat, Int.reduceLE, Int.reduceLT, Int.reduceBNe, Int.reduceBEq]; rfl); (· simp only [go_sem, Nat.reduceLT, Nat.reduceEqDiff]; rfl); (· rfl); first | (apply zb; (· simp only [go_sem, Nat.reduceLT]; rfl); (· simp only [go_sem, Nat.reduceLT]; rfl)) | (apply zf; (· simp only [go_sem, Nat.reduceLT]; rfl))) | ((first | apply z9 | apply za); (· rfl); (· simp only [go_sem, Nat.reduceLT]; rfl)) | (apply z8; (· simp only [go_sem, Nat.reduceEqDiff])) | (apply z5; (· simp only [go_sem, Nat.reduceEqDiff])) | (apply ze; (· kernel_rfl); (· kernel_rfl)) | (simp only [bW, if_true, Nat.reduceEqDiff, if_false])
      subst hF
      simp only [go_sem, Nat.reduceEqDiff, bP, Nat.reduceAdd, Nat.reduceLeDiff, List.length_map, Tryd.f102, okW.snap, okW.snapAll, z7]
  | cons e r =>
    simp only [gD, gO, gN]
    simp only [bW, if_true, Nat.reduceEqDiff, if_false]
    repeat' first | (intro hb; first | cases hb | skip) | ((first | apply z6 | apply zc); (· rfl); (· simp (disch := assumption) only [go_sem, Nat.reduceEqDiff, Nat.reduceAdd, bP, zd, Nat.reduceLeDiff, Nat.reduceLT, Nat.reduceMul, List.length_append, decide_eq_true_eq, z7, z0, Int.reduceToNat, Int.reduceLE, Int.reduceLT, Int.reduceBNe, Int.reduceBEq, hlj]; rfl); (· simp only [go_sem, Nat.reduceLT, Nat.reduceEqDiff]; rfl); (· rfl); first | (apply zb; (· simp only [go_sem, Nat.reduceLT]; rfl); (· simp only [go_sem, Nat.reduceLT]; rfl)) | (apply zf; (· simp only [go_sem, Nat.reduceLT]; rfl))) | ((first | apply z9 | apply za); (· rfl); (· simp only [go_sem, Nat.reduceLT]; rfl)) | (apply z8; (· simp only [go_sem, Nat.reduceEqDiff])) | (apply z5; (· simp only [go_sem, Nat.reduceEqDiff])) | (apply ze; (· kernel_rfl); (· kernel_rfl)) | (simp only [bW, if_true, Nat.reduceEqDiff, if_false])
    refine w_loop (st1 := ⟨30, [(2, gD 0 3 (e :: r)), (19, I p.joins.length), (20, I (0 : Nat))], gO 0 3 encW (e :: r), gN 0 (e :: r), 0⟩) lk102_7 (by
      simp only [go_sem, List.map_append, Nat.reduceEqDiff, Nat.reduceLT, Nat.reduceAdd, bI, bD, bI2, zh, okW.renL, okW.idsL, okW.ids, okW.ren, gD, gO, gN]
      try rfl) (L102_7 p _ _ h2 p.joins.length 0 (e :: r) (by simp) (by simp at hl1 ⊢; omega) ?_)
    generalize (e :: r) ++ idxs true 0 p.joins.length = R
    cases R with
    | nil =>
      simp only [gD, gO, gN, gS]
      simp only [bW, if_true, Nat.reduceEqDiff, if_false]
      repeat' first | (intro hb; first | cases hb | skip) | ((first | apply z6 | apply zc); (· rfl); (· simp (disch := assumption) only [go_sem, Nat.reduceEqDiff, Nat.reduceAdd, bP, zd, Nat.reduceLeDiff, Nat.reduceLT, Nat.reduceMul, List.length_append, decide_eq_true_eq, z7, z0, Int.reduceToNat, Int.reduceLE, Int.reduceLT, Int.reduceBNe, Int.reduceBEq]; rfl); (· simp only [go_sem, Nat.reduceLT, Nat.reduceEqDiff]; rfl); (· rfl); first | (apply zb; (· simp only [go_sem, Nat.reduceLT]; rfl); (· simp only [go_sem, Nat.reduceLT]; rfl)) | (apply zf; (· simp only [go_sem, Nat.reduceLT]; rfl))) | ((first | apply z9 | apply za); (· rfl); (· simp only [go_sem, Nat.reduceLT]; rfl)) | (apply z8; (· simp only [go_sem, Nat.reduceEqDiff])) | (apply z5; (· simp only [go_sem, Nat.reduceEqDiff])) | (apply ze; (· kernel_rfl); (· kernel_rfl)) | (simp only [bW, if_true, Nat.reduceEqDiff, if_false])
      subst hF
      rfl
    | cons w r =>
      simp only [gD, gO, gN, gS]
      simp only [bW, if_true, Nat.reduceEqDiff, if_false]
      repeat' first | (intro hb; first | cases hb | skip) | ((first | apply z6 | apply zc); (· rfl); (· simp (disch := assumption) only [go_sem, Nat.reduceEqDiff, Nat.reduceAdd, bP, zd, Nat.reduceLeDiff, Nat.reduceLT, Nat.reduceMul, List.length_append, decide_eq_true_eq, z7, z0, Int.reduceToNat, Int.reduceLE, Int.reduceLT, Int.reduceBNe, Int.reduceBEq]; rfl); (· simp only [go_sem, Nat.reduceLT, Nat.reduceEqDiff]; rfl); (· rfl); first | (apply zb; (· simp only [go_sem, Nat.reduceLT]; rfl); (· simp only [go_sem, Nat.reduceLT]; rfl)) | (apply zf; (· simp only [go_sem, Nat.reduceLT]; rfl))) | ((first | apply z9 | apply za); (· rfl); (· simp only [go_sem, Nat.reduceLT]; rfl)) | (apply z8; (· simp only [go_sem, Nat.reduceEqDiff])) | (apply z5; (· simp only [go_sem, Nat.reduceEqDiff])) | (apply ze; (· kernel_rfl); (· kernel_rfl)) | (simp only [bW, if_true, Nat.reduceEqDiff, if_false])
      subst hF
      simp only [go_sem, Nat.reduceEqDiff, bP, Nat.reduceAdd, Nat.reduceLeDiff, List.length_map, Tryd.f102, okW.snap, okW.snapAll, z7]

end Go.VS
namespace Go.VS
open Go Go.Proofs
set_option maxHeartbeats 0
set_option linter.unusedSimpArgs false

noncomputable def lp105_2 : Code := zB [1, 0, 1, 0, 0] (zo Tryd.f105)
theorem lk105_2 : cfg.keep 105 (zD lp105_2) = [0, 3, 7, 8] := by kernel_rfl

def idxR (r : Reason) : Nat → List Reason → Int
  | _, [] => -1
  | i, w :: l => if eqW r w then (i : Int) else idxR r (i + 1) l
theorem idxR_iff {r : Reason} : ∀ {l : List Reason} {i : Nat}, 0 ≤ idxR r i l ↔ l.any (eqW r) = true
  | [], i => by simp [idxR]
  | w :: l, i => by
    rw [List.any_cons, Bool.or_eq_true]
    have ih := idxR_iff (r := r) (l := l) (i := i + 1)
    show 0 ≤ (if eqW r w then (i : Int) else idxR r (i + 1) l) ↔ _
    by_cases h : eqW r w = true
    · rw [if_pos h]; simp [h]
    · rw [if_neg h, ih]; simp [h]
theorem idxR_any {r : Reason} {l : List Reason} {i : Nat} : decide (idxR r i l ≥ 0) = l.any (eqW r) := by
  rw [Bool.eq_iff_iff, decide_eq_true_iff]
  exact idxR_iff
theorem L105_2 {F : Exit → St → Option D} (r : Reason) (l : List Reason) (k : List Kt) (x : D) (hl : l.length ≤ 1000000) (hk : ∀ (v : Int) st, get st.tmps 4 = I v → zO cfg (lim cfg) 105 F k .ret st = some (I v)) : ∀ (rest : List Reason) (i : Nat), l.drop i = rest → i ≤ l.length →
    (idxR r i rest = -1 → zO cfg (lim cfg) 105 F k (.exit 0) ⟨19, [(9, B false), (0, .sl false (l.map encW) 3 none), (3, .lref 0 0 3 0), (7, I l.length), (8, I (l.length : Nat))], [(0, ⟨[.agg [B r.join, I r.at_, B r.back]], 3, false⟩)], 1, 0⟩ = some x) →
    (idxR r i rest ≠ -1 → x = I (idxR r i rest)) →
    EvL cfg (lim cfg) 105 F lp105_2 k ⟨19, [(0, .sl false (l.map encW) 3 none), (3, .lref 0 0 3 0), (7, I l.length), (8, I (i : Nat))], [(0, ⟨[.agg [B r.join, I r.at_, B r.back]], 3, false⟩)], 1, 0⟩ = some x := by
  intro rest
  induction rest with
  | nil =>
    intro i hd hi h h'
    have hi' : i = l.length := by
      have := List.drop_eq_nil_iff.1 hd
      omega
    subst hi'
    refine zv ?_
    try dsimp only [lp105_2, zB, zo, Tryd.f105]
    simp only [bW, if_true, Nat.reduceEqDiff, if_false]
    repeat' first | (intro hb; first | cases hb | skip) | ((first | apply z6 | apply zc); (· rfl); (· simp (disch := assumption) only [go_sem, Nat.reduceEqDiff, Nat.reduceAdd, bP, zd, Nat.reduceLeDiff, Nat.reduceLT, Nat.reduceMul, List.length_append, decide_eq_true_eq, z7, z0, Int.reduceToNat, Int.reduceLE, Int.reduceLT, Int.reduceBNe, Int.reduceBEq, Int.lt_irrefl]; rfl); (· simp only [go_sem, Nat.reduceLT, Nat.reduceEqDiff]; rfl); (· rfl); first | (apply zb; (· simp only [go_sem, Nat.reduceLT]; rfl); (· simp only [go_sem, Nat.reduceLT]; rfl)) | (apply zf; (· simp only [go_sem, Nat.reduceLT]; rfl))) | ((first | apply z9 | apply za); (· rfl); (· simp only [go_sem, Nat.reduceLT]; rfl)) | (apply z8; (· simp only [go_sem, Nat.reduceEqDiff])) | (apply z5; (· simp only [go_sem, Nat.reduceEqDiff])) | (apply ze; (· kernel_rfl); (· kernel_rfl)) | (simp only [bW, if_true, Nat.reduceEqDiff, if_false])
    exact h rfl
  | cons w rest ih =>
    intro i hd hi h h'
    have hlt : i < l.length := by
      rcases Nat.lt_or_ge i l.length with h | h
      · exact h
      · rw [List.drop_eq_nil_of_le h] at hd; cases hd
    have hm : l[i]? = some w := by rw [← List.head?_drop, hd]; rfl
    have hx : (l.map encW)[i]? = some (.agg [B w.join, I w.at_, B w.back]) := by rw [List.getElem?_map, hm]; rfl
    have hlt' : (i : Int) < (l.length : Int) := by omega
    have hw3 : IntKind.i64.wrap ((i : Int) + 1) = ((i + 1 : Nat) : Int) := by rw [wrap_i64 (by omega) (by omega)]; omega
    refine zv ?_
    try dsimp only [lp105_2, zB, zo, Tryd.f105]
    simp only [bW, if_true, Nat.reduceEqDiff, if_false]
    repeat' first | (intro hb; first | cases hb | skip) | ((first | apply z6 | apply zc); (· rfl); (· simp (disch := assumption) only [go_sem, Nat.reduceEqDiff, Nat.reduceAdd, bP, zd, Nat.reduceLeDiff, Nat.reduceLT, Nat.reduceMul, List.length_append, decide_eq_true_eq, z7, z0, Int.reduceToNat, Int.reduceLE, Int.reduceLT, Int.reduceBNe, Int.reduceBEq, hx, hlt', hw3]; rfl); (· simp only [go_sem, Nat.reduceLT, Nat.reduceEqDiff]; rfl); (· rfl); first | (apply zb; (· simp only [go_sem, Nat.reduceLT]; rfl); (· simp only [go_sem, Nat.reduceLT]; rfl)) | (apply zf; (· simp only [go_sem, Nat.reduceLT]; rfl))) | ((first | apply z9 | apply za); (· rfl); (· simp only [go_sem, Nat.reduceLT]; rfl)) | (apply z8; (· simp only [go_sem, Nat.reduceEqDiff])) | (apply z5; (· simp only [go_sem, Nat.reduceEqDiff])) | (apply ze; (· kernel_rfl); (· kernel_rfl)) | (simp only [bW, if_true, Nat.reduceEqDiff, if_false])
    · have he : eqW r w = true := by simpa [eqW] using hb
      simp only [idxR, he, if_true] at h'
      rw [h' (by omega)]
      exact hk _ _ rfl
    · have he : eqW r w = false := by simpa [eqW] using hb
      simp only [idxR, he, Bool.false_eq_true, if_false] at h h'
      exact zM (st1 := ⟨19, [(0, .sl false (l.map encW) 3 none), (3, .lref 0 0 3 0), (7, I l.length), (8, I (i + 1 : Nat))], [(0, ⟨[.agg [B r.join, I r.at_, B r.back]], 3, false⟩)], 1, 0⟩) lk105_2 (by kernel_rfl) (ih (i + 1) (by rw [← List.drop_drop, hd]; rfl) hlt h h')
theorem t105 (r : Reason) (l : List Reason) (hl : l.length ≤ 1000000) : (lim cfg).pure 105 [gS 3 encW l, .agg [B r.join, I r.at_, B r.back]] = some (I (idxR r 0 l)) := by
  cases l with
  | nil =>
    simp only [gS, idxR]
    refine zp (zk 105) cfn105 rfl (n := 19) rfl ?_
    generalize hF : finP cfg Tryd.f105 = F
    simp only [bW, if_true, Nat.reduceEqDiff, if_false, zi]
    repeat' first | (intro hb; first | cases hb | skip) | ((first | apply z6 | apply zc); (· rfl); (· simp (disch := assumption) only [go_sem, Nat.reduceEqDiff, Nat.reduceAdd, bP, zd, Nat.reduceLeDiff, Nat.reduceLT, Nat.reduceMul, List.length_append, decide_eq_true_eq, z7, z0, Int.reduceToNat, Int.reduceLE, Int.reduceLT, Int.reduceBNe, Int.reduceBEq]; rfl); (· simp only [go_sem, Nat.reduceLT, Nat.reduceEqDiff]; rfl); (· rfl); first | (apply zb; (· simp only [go_sem, Nat.reduceLT]; rfl); (· simp only [go_sem, Nat.reduceLT]; rfl)) | (apply zf; (· simp only [go_sem, Nat.reduceLT]; rfl))) | ((first | apply z9 | apply za); (· rfl); (· simp only [go_sem, Nat.reduceLT]; rfl)) | (apply z8; (· simp only [go_sem, Nat.reduceEqDiff])) | (apply z5; (· simp only [go_sem, Nat.reduceEqDiff])) | (apply ze; (· kernel_rfl); (· kernel_rfl)) | (simp only [bW, if_true, Nat.reduceEqDiff, if_false])
    apply w_loop lk105_2
    · simp only [go_sem, List.map_append, Nat.reduceEqDiff, Nat.reduceLT, Nat.reduceAdd, bI, bD, bI2]
      rfl
    refine zv ?_
    try dsimp only [lp105_2, zB, zo, Tryd.f105]
    simp only [bW, if_true, Nat.reduceEqDiff, if_false]
    repeat' first | (intro hb; first | cases hb | skip) | ((first | apply z6 | apply zc); (· rfl); (· simp (disch := assumption) only [go_sem, Nat.reduceEqDiff, Nat.reduceAdd, bP, zd, Nat.reduceLeDiff, Nat.reduceLT, Nat.reduceMul, List.length_append, decide_eq_true_eq, z7, z0, Int.reduceToNat, Int.reduceLE, Int.reduceLT, Int.reduceBNe, Int.reduceBEq, Int.lt_irrefl]; rfl); (· simp only [go_sem, Nat.reduceLT, Nat.reduceEqDiff]; rfl); (· rfl); first | (apply zb; (· simp only [go_sem, Nat.reduceLT]; rfl); (· simp only [go_sem, Nat.reduceLT]; rfl)) | (apply zf; (· simp only [go_sem, Nat.reduceLT]; rfl))) | ((first | apply z9 | apply za); (· rfl); (· simp only [go_sem, Nat.reduceLT]; rfl)) | (apply z8; (· simp only [go_sem, Nat.reduceEqDiff])) | (apply z5; (· simp only [go_sem, Nat.reduceEqDiff])) | (apply ze; (· kernel_rfl); (· kernel_rfl)) | (simp only [bW, if_true, Nat.reduceEqDiff, if_false])
    subst hF
    all_goals simp only [go_sem, Nat.reduceEqDiff, bP, Nat.reduceAdd, Nat.reduceLeDiff, List.length_map, Tryd.f105]
  | cons w0 l0 =>
    simp only [gS]
    generalize hL : w0 :: l0 = l at *
    refine zp (zk 105) cfn105 rfl (n := 19) rfl ?_
    generalize hF : finP cfg Tryd.f105 = F
    simp only [bW, if_true, Nat.reduceEqDiff, if_false, zi]
    have hret : ∀ (v : Int) st, get st.tmps 4 = I v → F .ret st = some (I v) := by
      intro v st h
      subst hF
      simp only [go_sem, Nat.reduceEqDiff, bP, Nat.reduceAdd, Nat.reduceLeDiff, List.length_map, Tryd.f105, h]
    repeat' first | (intro hb; first | cases hb | skip) | ((first | apply z6 | apply zc); (· rfl); (· simp (disch := assumption) only [go_sem, Nat.reduceEqDiff, Nat.reduceAdd, bP, zd, Nat.reduceLeDiff, Nat.reduceLT, Nat.reduceMul, List.length_append, decide_eq_true_eq, z7, z0, Int.reduceToNat, Int.reduceLE, Int.reduceLT, Int.reduceBNe, Int.reduceBEq, List.length_map]; rfl); (· simp only [go_sem, Nat.reduceLT, Nat.reduceEqDiff]; rfl); (· rfl); first | (apply zb; (· simp only [go_sem, Nat.reduceLT]; rfl); (· simp only [go_sem, Nat.reduceLT]; rfl)) | (apply zf; (· simp only [go_sem, Nat.reduceLT]; rfl))) | ((first | apply z9 | apply za); (· rfl); (· simp only [go_sem, Nat.reduceLT]; rfl)) | (apply z8; (· simp only [go_sem, Nat.reduceEqDiff])) | (apply z5; (· simp only [go_sem, Nat.reduceEqDiff])) | (apply ze; (· kernel_rfl); (· kernel_rfl)) | (simp only [bW, if_true, Nat.reduceEqDiff, if_false])
    refine w_loop (st1 := ⟨19, [(0, .sl false (l.map encW) 3 none), (3, .lref 0 0 3 0), (7, I l.length), (8, I (0 : Nat))], [(0, ⟨[.agg [B r.join, I r.at_, B r.back]], 3, false⟩)], 1, 0⟩) lk105_2 (by kernel_rfl) (L105_2 r l _ _ hl (fun v st h => by simp only [bW, if_true, Nat.reduceEqDiff, if_false]; exact hret v st h) l 0 rfl (Nat.zero_le _) (fun h => ?_) (fun h => rfl))
    rw [h]
    simp only [bW, if_true, Nat.reduceEqDiff, if_false]
    repeat' first | (intro hb; first | cases hb | skip) | ((first | apply z6 | apply zc); (· rfl); (· simp (disch := assumption) only [go_sem, Nat.reduceEqDiff, Nat.reduceAdd, bP, zd, Nat.reduceLeDiff, Nat.reduceLT, Nat.reduceMul, List.length_append, decide_eq_true_eq, z7, z0, Int.reduceToNat, Int.reduceLE, Int.reduceLT, Int.reduceBNe, Int.reduceBEq]; rfl); (· simp only [go_sem, Nat.reduceLT, Nat.reduceEqDiff]; rfl); (· rfl); first | (apply zb; (· simp only [go_sem, Nat.reduceLT]; rfl); (· simp only [go_sem, Nat.reduceLT]; rfl)) | (apply zf; (· simp only [go_sem, Nat.reduceLT]; rfl))) | ((first | apply z9 | apply za); (· rfl); (· simp only [go_sem, Nat.reduceLT]; rfl)) | (apply z8; (· simp only [go_sem, Nat.reduceEqDiff])) | (apply z5; (· simp only [go_sem, Nat.reduceEqDiff])) | (apply ze; (· kernel_rfl); (· kernel_rfl)) | (simp only [bW, if_true, Nat.reduceEqDiff, if_false])
    subst hF
    all_goals simp only [go_sem, Nat.reduceEqDiff, bP, Nat.reduceAdd, Nat.reduceLeDiff, List.length_map, Tryd.f105]
theorem t61 (r : Reason) (l : List Reason) (hl : l.length ≤ 1000000) : (lim cfg).pure 61 [gS 3 encW l, .agg [B r.join, I r.at_, B r.back]] = some (B (l.any (eqW r))) := by
  have h105 := t105 r l hl
  have he := idxR_any (r := r) (l := l) (i := 0)
  cases l with
  | nil =>
    simp only [gS] at h105 ⊢
    refine zp (zk 61) cfn61 rfl (n := 9) rfl ?_
    simp only [bW, if_true, Nat.reduceEqDiff, if_false, zi]
    repeat' first | (intro hb; first | cases hb | skip) | ((first | apply z6 | apply zc); (· rfl); (· simp (disch := assumption) only [go_sem, Nat.reduceEqDiff, Nat.reduceAdd, bP, zd, Nat.reduceLeDiff, Nat.reduceLT, Nat.reduceMul, List.length_append, decide_eq_true_eq, z7, z0, Int.reduceToNat, Int.reduceLE, Int.reduceLT, Int.reduceBNe, Int.reduceBEq, h105]; rfl); (· simp only [go_sem, Nat.reduceLT, Nat.reduceEqDiff]; rfl); (· rfl); first | (apply zb; (· simp only [go_sem, Nat.reduceLT]; rfl); (· simp only [go_sem, Nat.reduceLT]; rfl)) | (apply zf; (· simp only [go_sem, Nat.reduceLT]; rfl))) | ((first | apply z9 | apply za); (· rfl); (· simp only [go_sem, Nat.reduceLT]; rfl)) | (apply z8; (· simp only [go_sem, Nat.reduceEqDiff])) | (apply z5; (· simp only [go_sem, Nat.reduceEqDiff])) | (apply ze; (· kernel_rfl); (· kernel_rfl)) | (simp only [bW, if_true, Nat.reduceEqDiff, if_false])
    all_goals try simp only [go_sem, Nat.reduceEqDiff, bP, Nat.reduceAdd, Nat.reduceLeDiff, List.length_map, Tryd.f61, idxR, List.any_nil]
    all_goals first | done | rfl | (simp_all []; done) | trace_state
  | cons w0 l0 =>
    simp only [gS] at h105 ⊢
    generalize w0 :: l0 = l at *
    refine zp (zk 61) cfn61 rfl (n := 9) rfl ?_
    simp only [bW, if_true, Nat.reduceEqDiff, if_false, zi]
    repeat' first | (intro hb; first | cases hb | skip) | ((first | apply z6 | apply zc); (· rfl); (· simp (disch := assumption) only [go_sem, Nat.reduceEqDiff, Nat.reduceAdd, bP, zd, Nat.reduceLeDiff, Nat.reduceLT, Nat.reduceMul, List.length_append, decide_eq_true_eq, z7, z0, Int.reduceToNat, Int.reduceLE, Int.reduceLT, Int.reduceBNe, Int.reduceBEq, h105, he]; rfl); (· simp only [go_sem, Nat.reduceLT, Nat.reduceEqDiff]; rfl); (· rfl); first | (apply zb; (· simp only [go_sem, Nat.reduceLT]; rfl); (· simp only [go_sem, Nat.reduceLT]; rfl)) | (apply zf; (· simp only [go_sem, Nat.reduceLT]; rfl))) | ((first | apply z9 | apply za); (· rfl); (· simp only [go_sem, Nat.reduceLT]; rfl)) | (apply z8; (· simp only [go_sem, Nat.reduceEqDiff])) | (apply z5; (· simp only [go_sem, Nat.reduceEqDiff])) | (apply ze; (· kernel_rfl); (· kernel_rfl)) | (simp only [bW, if_true, Nat.reduceEqDiff, if_false])
    all_goals try simp only [go_sem, Nat.reduceEqDiff, bP, Nat.reduceAdd, Nat.reduceLeDiff, List.length_map, Tryd.f61]
    all_goals first | done | rfl | (simp_all []; done) | trace_state

def withoutE (p : Paper) (r : Reason) : Int := if check p = 0 then (if (reasF p).any (eqW r) then 0 else 1) else check p
def zeroP : Paper := ⟨0, true, [], true, []⟩
def withoutP (p : Paper) (r : Reason) : Paper := if withoutE p r = 0 then zP p r else zeroP
theorem reas_any {p : Paper} {r : Reason} (h : (reasF p).any (eqW r) = true) : r.back = false ∧ ((r.join = false ∧ ∃ i : Nat, r.at_ = i ∧ i < p.marks.length) ∨ (r.join = true ∧ ∃ i : Nat, r.at_ = i ∧ i < p.joins.length)) := by
  have key : ∀ (b : Bool) (m i : Nat), (idxs b i m).any (eqW r) = true → r.back = false ∧ r.join = b ∧ ∃ k : Nat, r.at_ = k ∧ k < i + m := by
    intro b m
    induction m with
    | zero => intro i h; simp [idxs] at h
    | succ m ih =>
      intro i h
      rw [idxs, List.any_cons, Bool.or_eq_true] at h
      rcases h with h | h
      · simp only [eqW, Bool.and_eq_true, beq_iff_eq] at h
        exact ⟨h.2.2, h.1, i, h.2.1, by omega⟩
      · obtain ⟨a, b, k, c, d⟩ := ih (i + 1) h
        exact ⟨a, b, k, c, by omega⟩
  rw [reasF, List.any_append, Bool.or_eq_true] at h
  rcases h with h | h
  · obtain ⟨a, b, k, c, d⟩ := key _ _ _ h
    exact ⟨a, .inl ⟨b, k, c, by omega⟩⟩
  · obtain ⟨a, b, k, c, d⟩ := key _ _ _ h
    exact ⟨a, .inr ⟨b, k, c, by omega⟩⟩
theorem any_reas {p : Paper} {r : Reason} (h1 : r.back = false) (h : (r.join = false ∧ ∃ i : Nat, r.at_ = i ∧ i < p.marks.length) ∨ (r.join = true ∧ ∃ i : Nat, r.at_ = i ∧ i < p.joins.length)) : (reasF p).any (eqW r) = true := by
  have key : ∀ (b : Bool) (m i k : Nat), r.join = b → r.at_ = k → i ≤ k → k < i + m → (idxs b i m).any (eqW r) = true := by
    intro b m
    induction m with
    | zero => intro i k _ _ _ _; omega
    | succ m ih =>
      intro i k hb hk h1' h2
      rw [idxs, List.any_cons, Bool.or_eq_true]
      by_cases he : i = k
      · left; simp [eqW, hb, hk, he, h1]
      · right; exact ih (i + 1) k hb hk (by omega) (by omega)
  rw [reasF, List.any_append, Bool.or_eq_true]
  rcases h with ⟨a, k, b, c⟩ | ⟨a, k, b, c⟩
  · exact .inl (key _ _ _ _ a b (by omega) (by omega))
  · exact .inr (key _ _ _ _ a b (by omega) (by omega))
theorem t103 (p : Paper) (r : Reason) (hwf : p.wf) (h1 : p.marks.length ≤ 1000) (h2 : p.joins.length ≤ 1000) (h : (reasF p).any (eqW r) = true) : (lim cfg).pure 103 [zh p, .agg [B r.join, I r.at_, B r.back]] = some (zh (zP p r)) := by
  obtain ⟨j, a, b⟩ := r
  obtain ⟨-, ⟨rfl, i, rfl, hi⟩ | ⟨rfl, i, rfl, hi⟩⟩ := reas_any h
  · exact t103m p i b hwf h1 h2 hi
  · exact t103j p i b hwf h1 h2 hi
theorem check_zero {p : Paper} : check p = 0 ↔ zt p = true := by
  unfold check
  cases zt p <;> simp
theorem t52 (p : Paper) (r : Reason) (hwf : p.wf) : (lim cfg).pure 52 [zh p, .agg [B r.join, I r.at_, B r.back]] = some (.tup [zh (withoutP p r), I (withoutE p r)]) := by
  have h15 := t15 p hwf
  unfold withoutP withoutE
  by_cases hc : check p = 0
  case neg =>
    have n1 : (check p != 0) = true := by simp [hc]
    rw [if_neg hc, if_neg hc]
    refine zp (zk 52) cfn52 rfl (n := 22) rfl ?_
    simp only [bW, if_true, Nat.reduceEqDiff, if_false, zi]
    repeat' first | (intro hb; first | cases hb | skip) | ((first | apply z6 | apply zc); (· rfl); (· simp (disch := assumption) only [go_sem, Nat.reduceEqDiff, Nat.reduceAdd, bP, zd, Nat.reduceLeDiff, Nat.reduceLT, Nat.reduceMul, List.length_append, decide_eq_true_eq, z7, z0, Int.reduceToNat, Int.reduceLE, Int.reduceLT, Int.reduceBNe, Int.reduceBEq, h15, n1]; rfl); (· simp only [go_sem, Nat.reduceLT, Nat.reduceEqDiff]; rfl); (· rfl); first | (apply zb; (· simp only [go_sem, Nat.reduceLT]; rfl); (· simp only [go_sem, Nat.reduceLT]; rfl)) | (apply zf; (· simp only [go_sem, Nat.reduceLT]; rfl))) | ((first | apply z9 | apply za); (· rfl); (· simp only [go_sem, Nat.reduceLT]; rfl)) | (apply z8; (· simp only [go_sem, Nat.reduceEqDiff])) | (apply z5; (· simp only [go_sem, Nat.reduceEqDiff])) | (apply ze; (· kernel_rfl); (· kernel_rfl)) | (simp only [bW, if_true, Nat.reduceEqDiff, if_false])
    all_goals try simp only [go_sem, Nat.reduceEqDiff, bP, Nat.reduceAdd, Nat.reduceLeDiff, List.length_map, Tryd.f52, zeroP, zs_true]
    all_goals first | done | rfl | (simp_all []; done) | trace_state
  rw [hc] at h15
  obtain ⟨o1, o2, o5, o6, -, -⟩ := zJ (check_zero.1 hc)
  have h102 := t102 p hwf (by omega) (by omega)
  have h61 := t61 r (reasF p) (by simp [reasF, idxs_len]; omega)
  rw [gS_W] at h102 h61
  generalize (reasF p).isEmpty = nE at h102 h61
  rw [if_pos hc]
  cases hr : (reasF p).any (eqW r) with
  | false =>
    rw [hr] at h61
    simp only [Bool.false_eq_true, if_false]
    rw [if_neg (by omega)]
    refine zp (zk 52) cfn52 rfl (n := 22) rfl ?_
    simp only [bW, if_true, Nat.reduceEqDiff, if_false, zi]
    repeat' first | (intro hb; first | cases hb | skip) | ((first | apply z6 | apply zc); (· rfl); (· simp (disch := assumption) only [go_sem, Nat.reduceEqDiff, Nat.reduceAdd, bP, zd, Nat.reduceLeDiff, Nat.reduceLT, Nat.reduceMul, List.length_append, decide_eq_true_eq, z7, z0, Int.reduceToNat, Int.reduceLE, Int.reduceLT, Int.reduceBNe, Int.reduceBEq, h15, h102, h61, bne_self_eq_false]; rfl); (· simp only [go_sem, Nat.reduceLT, Nat.reduceEqDiff]; rfl); (· rfl); first | (apply zb; (· simp only [go_sem, Nat.reduceLT]; rfl); (· simp only [go_sem, Nat.reduceLT]; rfl)) | (apply zf; (· simp only [go_sem, Nat.reduceLT]; rfl))) | ((first | apply z9 | apply za); (· rfl); (· simp only [go_sem, Nat.reduceLT]; rfl)) | (apply z8; (· simp only [go_sem, Nat.reduceEqDiff])) | (apply z5; (· simp only [go_sem, Nat.reduceEqDiff])) | (apply ze; (· kernel_rfl); (· kernel_rfl)) | (simp only [bW, if_true, Nat.reduceEqDiff, if_false])
    all_goals try simp only [go_sem, Nat.reduceEqDiff, bP, Nat.reduceAdd, Nat.reduceLeDiff, List.length_map, Tryd.f52, zeroP, zs_true]
    all_goals first | done | rfl | (simp_all []; done) | trace_state
  | true =>
    have h103 := t103 p r hwf (by omega) (by omega) hr
    rw [hr] at h61
    simp only [if_true]
    generalize zP p r = q at *
    refine zp (zk 52) cfn52 rfl (n := 22) rfl ?_
    simp only [bW, if_true, Nat.reduceEqDiff, if_false, zi]
    repeat' first | (intro hb; first | cases hb | skip) | ((first | apply z6 | apply zc); (· rfl); (· simp (disch := assumption) only [go_sem, Nat.reduceEqDiff, Nat.reduceAdd, bP, zd, Nat.reduceLeDiff, Nat.reduceLT, Nat.reduceMul, List.length_append, decide_eq_true_eq, z7, z0, Int.reduceToNat, Int.reduceLE, Int.reduceLT, Int.reduceBNe, Int.reduceBEq, h15, h102, h61, h103, bne_self_eq_false]; rfl); (· simp only [go_sem, Nat.reduceLT, Nat.reduceEqDiff]; rfl); (· rfl); first | (apply zb; (· simp only [go_sem, Nat.reduceLT]; rfl); (· simp only [go_sem, Nat.reduceLT]; rfl)) | (apply zf; (· simp only [go_sem, Nat.reduceLT]; rfl))) | ((first | apply z9 | apply za); (· rfl); (· simp only [go_sem, Nat.reduceLT]; rfl)) | (apply z8; (· simp only [go_sem, Nat.reduceEqDiff])) | (apply z5; (· simp only [go_sem, Nat.reduceEqDiff])) | (apply ze; (· kernel_rfl); (· kernel_rfl)) | (simp only [bW, if_true, Nat.reduceEqDiff, if_false])
    all_goals try simp only [go_sem, Nat.reduceEqDiff, bP, Nat.reduceAdd, Nat.reduceLeDiff, List.length_map, Tryd.f52]
    all_goals first | done | rfl | (simp_all []; done) | trace_state

end Go.VS
/-
  Walks over at most five nodes: what a walk's quotient comes to; a walk may be shortened to four zI if no short closed walk comes to less than one. (A text of this claim's own; nothing of it is trusted.)
-/
namespace Go.VS.Walks
structure T where
  src : Nat
  dst : Nat
  w : Rat
def Ch (E : T → Prop) : Nat → List T → Nat → Prop
  | a, [], b => a = b
  | a, t :: r, b => E t ∧ t.src = a ∧ Ch E t.dst r b
def pr : List T → Rat
  | [] => 1
  | t :: r => t.w * pr r
theorem pr_append (l r : List T) : pr (l ++ r) = pr l * pr r := by
  induction l with
  | nil => simp [pr, Rat.one_mul]
  | cons t l ih => simp only [List.cons_append, pr, ih, Rat.mul_assoc]
theorem ch_append {E : T → Prop} {l r : List T} {a b : Nat} : Ch E a (l ++ r) b ↔ ∃ c, Ch E a l c ∧ Ch E c r b := by
  induction l generalizing a with
  | nil => simp [Ch]
  | cons t l ih =>
    simp only [List.cons_append, Ch, ih]
    constructor
    · rintro ⟨h1, h2, c, h3, h4⟩; exact ⟨c, ⟨h1, h2, h3⟩, h4⟩
    · rintro ⟨c, ⟨h1, h2, h3⟩, h4⟩; exact ⟨h1, h2, c, h3, h4⟩
theorem ch_one {E : T → Prop} {t : T} (h : E t) : Ch E t.src [t] t.dst := ⟨h, rfl, rfl⟩
theorem pr_pos {E : T → Prop} (hp : ∀ t, E t → 0 < t.w) {l : List T} : ∀ {a b}, Ch E a l b → 0 < pr l := by
  induction l with
  | nil => intro a b _; exact (by decide : (0 : Rat) < 1)
  | cons t l ih => intro a b h; exact Rat.mul_pos (hp t h.1) (ih h.2.2)
theorem nodup_len : ∀ (n : Nat) (l : List Nat), l.Nodup → (∀ x ∈ l, x < n) → l.length ≤ n := by
  intro n
  induction n with
  | zero =>
    intro l _ h
    cases l with
    | nil => exact Nat.le_refl _
    | cons x r => exact absurd (h x List.mem_cons_self) (Nat.not_lt_zero _)
  | succ n ih =>
    intro l hl h
    have h1 := ih (l.erase n) (hl.erase n) (fun x hx => by
      have h2 := h x (List.mem_of_mem_erase hx)
      have h3 : x ≠ n := fun e => by
        subst e
        exact absurd hx (hl.not_mem_erase)
      omega)
    rw [List.length_erase] at h1
    split at h1 <;> omega
theorem ch_split {E : T → Prop} {l : List T} : ∀ {a b c : Nat}, Ch E a l b → c ∈ l.map T.dst → ∃ l1 l2, l = l1 ++ l2 ∧ l1 ≠ [] ∧ Ch E a l1 c ∧ Ch E c l2 b := by
  induction l with
  | nil => intro a b c _ h; cases h
  | cons t l ih =>
    intro a b c h hc
    rcases List.mem_cons.1 hc with rfl | hc
    · exact ⟨[t], l, rfl, by simp, ⟨h.1, h.2.1, rfl⟩, h.2.2⟩
    · obtain ⟨l1, l2, rfl, h1, h2, h3⟩ := ih h.2.2 hc
      exact ⟨t :: l1, l2, rfl, by simp, ⟨h.1, h.2.1, h2⟩, h3⟩
theorem ch_loop {E : T → Prop} {l : List T} : ∀ {a b : Nat}, Ch E a l b → (a :: l.map T.dst).Nodup ∨ ∃ l1 l2 l3 c, l = l1 ++ (l2 ++ l3) ∧ l2 ≠ [] ∧ Ch E a l1 c ∧ Ch E c l2 c ∧ Ch E c l3 b := by
  induction l with
  | nil => intro a b _; exact .inl (by simp)
  | cons t l ih =>
    intro a b h
    by_cases ha : a ∈ (t :: l).map T.dst
    · obtain ⟨l1, l2, e, h1, h2, h3⟩ := ch_split h ha
      exact .inr ⟨[], l1, l2, a, e, h1, rfl, h2, h3⟩
    · rcases ih h.2.2 with hn | ⟨l1, l2, l3, c, rfl, h1, h2, h3, h4⟩
      · exact .inl (List.nodup_cons.2 ⟨ha, hn⟩)
      · exact .inr ⟨t :: l1, l2, l3, c, rfl, h1, ⟨h.1, h.2.1, h2⟩, h3, h4⟩
theorem ch_nodes {E : T → Prop} {N : Nat} (hn : ∀ t, E t → t.src < N ∧ t.dst < N) {l : List T} : ∀ {a b : Nat}, Ch E a l b → ∀ x ∈ l.map T.dst, x < N := by
  induction l with
  | nil => intro a b _ x hx; cases hx
  | cons t l ih =>
    intro a b h x hx
    rcases List.mem_cons.1 hx with rfl | hx
    · exact (hn t h.1).2
    · exact ih h.2.2 x hx
/-- No short closed walk comes to less than one. -/
def Fair (E : T → Prop) (N : Nat) : Prop := ∀ a l, Ch E a l a → l.length ≤ N → 1 ≤ pr l
theorem shorten {E : T → Prop} {N : Nat} (hp : ∀ t, E t → 0 < t.w) (hn : ∀ t, E t → t.src < N ∧ t.dst < N) (hf : Fair E N) : ∀ (n : Nat) (l : List T), l.length ≤ n → ∀ {a b : Nat}, Ch E a l b → ∃ r, Ch E a r b ∧ (r.length < N ∨ r = []) ∧ pr r ≤ pr l ∧ (l.length < N → r = l) := by
  intro n
  induction n with
  | zero =>
    intro l hl a b h
    have : l = [] := List.length_eq_zero_iff.1 (by omega)
    exact ⟨l, h, .inr this, Rat.le_refl, fun _ => rfl⟩
  | succ n ih =>
    intro l hl a b h
    by_cases hN : l.length < N
    · exact ⟨l, h, .inl hN, Rat.le_refl, fun _ => rfl⟩
    · cases l with
      | nil => exact ⟨[], h, .inr rfl, Rat.le_refl, fun _ => rfl⟩
      | cons t0 l0 =>
      have hl' : (t0 :: l0) = (t0 :: l0).take N ++ (t0 :: l0).drop N := (List.take_append_drop N _).symm
      generalize hL : t0 :: l0 = l at *
      rw [hl'] at h
      obtain ⟨m, h1, h2⟩ := ch_append.1 h
      have ha : a < N := by
        rw [← hl', ← hL] at h
        have := (hn t0 h.1).1
        rw [h.2.1] at this
        exact this
      have hlen : (l.take N).length = N := by rw [List.length_take]; omega
      rcases ch_loop h1 with hd | ⟨l1, l2, l3, c, e, g1, g2, g3, g4⟩
      · have := nodup_len N _ hd (fun x hx => by
          rcases List.mem_cons.1 hx with rfl | hx
          · exact ha
          · exact ch_nodes hn h1 x hx)
        simp at this
        omega
      · have hone : 1 ≤ pr l2 := hf c l2 g3 (by
          have := congrArg List.length e
          simp only [List.length_append] at this
          omega)
        have hpos : 0 < l2.length := by
          cases l2 with
          | nil => exact absurd rfl g1
          | cons _ _ => simp
        have el : l = l1 ++ (l2 ++ (l3 ++ l.drop N)) := by
          conv => lhs; rw [hl', e]
          simp only [List.append_assoc]
        have hr : Ch E a (l1 ++ (l3 ++ l.drop N)) b := ch_append.2 ⟨c, g2, ch_append.2 ⟨m, g4, h2⟩⟩
        have hle : (l1 ++ (l3 ++ l.drop N)).length ≤ n := by
          have := congrArg List.length el
          simp only [List.length_append] at this ⊢
          omega
        obtain ⟨r, r1, r2, r3, _⟩ := ih _ hle hr
        refine ⟨r, r1, r2, Rat.le_trans r3 ?_, fun h => absurd h hN⟩
        have p1 : 0 < pr l1 := pr_pos hp g2
        have p3 : 0 < pr (l3 ++ l.drop N) := pr_pos hp (ch_append.2 ⟨m, g4, h2⟩)
        have q1 : pr (l3 ++ l.drop N) ≤ pr l2 * pr (l3 ++ l.drop N) := by
          have := Rat.mul_le_mul_of_nonneg_right hone (Rat.le_of_lt p3)
          rwa [Rat.one_mul] at this
        have q2 := Rat.mul_le_mul_of_nonneg_left q1 (Rat.le_of_lt p1)
        have e1 : pr l = pr l1 * (pr l2 * pr (l3 ++ l.drop N)) := by
          rw [← pr_append l2, ← pr_append l1]
          exact congrArg pr el
        rw [e1, pr_append l1]
        exact q2
theorem closed_one {E : T → Prop} {N : Nat} (hp : ∀ t, E t → 0 < t.w) (hn : ∀ t, E t → t.src < N ∧ t.dst < N) (hf : Fair E N) {a : Nat} {l : List T} (h : Ch E a l a) : 1 ≤ pr l := by
  obtain ⟨r, r1, r2, r3, _⟩ := shorten hp hn hf _ l (Nat.le_refl _) h
  refine Rat.le_trans (hf a r r1 ?_) r3
  rcases r2 with r2 | rfl
  · omega
  · exact Nat.zero_le _

/-! ### quotients of numbers -/
def vq (n d : Int) : Rat := Rat.divInt n d
theorem vq_cancel {n d : Int} (hd : 0 < d) : vq n d * (d : Rat) = n := by
  unfold vq
  rw [Rat.divInt_eq_div, Rat.div_mul_cancel]
  intro h
  have := Rat.intCast_eq_zero_iff.1 h
  omega
theorem vq_scale {n d d' : Int} (hd : 0 < d) : vq n d * ((d : Rat) * (d' : Rat)) = ((n * d' : Int) : Rat) := by
  rw [← Rat.mul_assoc, vq_cancel hd, Rat.intCast_mul]
theorem vq_lt {n d n' d' : Int} (hd : 0 < d) (hd' : 0 < d') : vq n d < vq n' d' ↔ n * d' < n' * d := by
  have h1 : (0 : Rat) < (d : Rat) * (d' : Rat) := Rat.mul_pos (Rat.intCast_pos.2 hd) (Rat.intCast_pos.2 hd')
  rw [← Rat.mul_lt_mul_right h1, vq_scale hd, Rat.mul_comm (d : Rat), vq_scale hd', Rat.intCast_lt_intCast]
theorem vq_le {n d n' d' : Int} (hd : 0 < d) (hd' : 0 < d') : vq n d ≤ vq n' d' ↔ n * d' ≤ n' * d := by
  rw [← Rat.not_lt, vq_lt hd' hd, Int.not_lt]
theorem vq_mul (a b c d : Int) : vq a b * vq c d = vq (a * c) (b * d) := Rat.divInt_mul_divInt a c
theorem vq_low {n d g : Int} (hg : 0 < g) (h1 : g ∣ n) (h2 : g ∣ d) : vq (n / g) (d / g) = vq n d := by
  obtain ⟨a, rfl⟩ := h1
  obtain ⟨b, rfl⟩ := h2
  rw [Int.mul_ediv_cancel_left _ (by omega), Int.mul_ediv_cancel_left _ (by omega)]
  exact (Rat.divInt_mul_left (by omega)).symm
theorem vq_eq {n d n' d' : Int} (hd : 0 < d) (hd' : 0 < d') (hg : Int.gcd d n = 1) (hg' : Int.gcd d' n' = 1) (h : vq n d = vq n' d') : n = n' ∧ d = d' := by
  unfold vq at h
  have a1 := Rat.num_divInt n d
  have a2 := Rat.num_divInt n' d'
  have b1 := Rat.den_divInt n d
  have b2 := Rat.den_divInt n' d'
  rw [h] at a1 b1
  rw [a1] at a2
  rw [b1] at b2
  rw [hg, hg', Int.sign_eq_one_of_pos hd, Int.sign_eq_one_of_pos hd'] at a2
  rw [hg, hg', if_neg (by omega), if_neg (by omega)] at b2
  simp at a2 b2
  omega
theorem vq_one : vq 1 1 = 1 := by decide
theorem vq_pos {n d : Int} (hn : 0 < n) (hd : 0 < d) : 0 < vq n d := by
  have h := (vq_lt (n := 0) (d := 1) (by omega) hd).2 (by omega : 0 * d < n * 1)
  have e : vq 0 1 = 0 := by decide
  rwa [e] at h
end Go.VS.Walks
/-
  What the chains of a paper are: the least quotients of walks. (A text of this claim's own; nothing of it is trusted.)
-/
namespace Go.VS
open Go Go.VS.Walks
def vR (r : Ratio) : Rat := vq r.n r.d
def tE (e : Edge) : T := ⟨e.src.toNat, e.dst.toNat, vR e.q⟩
def inE (es : List Edge) (t : T) : Prop := ∃ e, e ∈ es ∧ tE e = t
def prE (w : List Edge) : Rat := pr (w.map tE)
/-- A walk along zI. -/
def Wk (es : List Edge) (a : Nat) (w : List Edge) (b : Nat) : Prop := Ch (inE es) a (w.map tE) b ∧ ∀ e ∈ w, e ∈ es
theorem wk_nil (es : List Edge) (a : Nat) : Wk es a [] a := ⟨rfl, fun _ h => by cases h⟩
theorem wk_append {es w v : List Edge} {a b c : Nat} (h1 : Wk es a w b) (h2 : Wk es b v c) : Wk es a (w ++ v) c := by
  refine ⟨by rw [List.map_append]; exact ch_append.2 ⟨b, h1.1, h2.1⟩, fun e he => ?_⟩
  rcases List.mem_append.1 he with he | he
  · exact h1.2 e he
  · exact h2.2 e he
theorem wk_one {es : List Edge} {e : Edge} (he : e ∈ es) : Wk es e.src.toNat [e] e.dst.toNat :=
  ⟨⟨⟨e, he, rfl⟩, rfl, rfl⟩, fun e' h => by rcases List.mem_singleton.1 h with rfl; exact he⟩
theorem wk_snoc {es w : List Edge} {a : Nat} {e : Edge} (h1 : Wk es a w e.src.toNat) (he : e ∈ es) : Wk es a (w ++ [e]) e.dst.toNat := wk_append h1 (wk_one he)
theorem wk_unsnoc {es w : List Edge} {a b : Nat} {e : Edge} (h : Wk es a (w ++ [e]) b) : Wk es a w e.src.toNat ∧ e ∈ es ∧ e.dst.toNat = b := by
  have hm := h.2 e (by simp)
  have h1 := h.1
  rw [List.map_append] at h1
  obtain ⟨c, h2, h3⟩ := ch_append.1 h1
  refine ⟨⟨?_, fun e' he => h.2 e' (by simp [he])⟩, hm, h3.2.2⟩
  rw [show e.src.toNat = c from h3.2.1]
  exact h2
theorem prE_append (w v : List Edge) : prE (w ++ v) = prE w * prE v := by unfold prE; rw [List.map_append, pr_append]
theorem prE_snoc (w : List Edge) (e : Edge) : prE (w ++ [e]) = prE w * vR e.q := by
  rw [prE_append]
  show _ * (vR e.q * 1) = _
  rw [Rat.mul_one]
theorem prE_nil : prE [] = 1 := rfl
/-- A ratio of positive numbers in its lowest terms. -/
def redR (r : Ratio) : Prop := 1 ≤ r.n ∧ 1 ≤ r.d ∧ Int.gcd r.d r.n = 1
theorem red_pos {r : Ratio} (h : redR r) : 0 < vR r := vq_pos (by have := h.1; omega) (by have := h.2.1; omega)
theorem red_eq {a b : Ratio} (ha : redR a) (hb : redR b) (h : vR a = vR b) : a = b := by
  obtain ⟨e1, e2⟩ := vq_eq (by have := ha.2.1; omega) (by have := hb.2.1; omega) ha.2.2 hb.2.2 h
  cases a; cases b; simp only at e1 e2; rw [e1, e2]
theorem ltR_iff {a b : Ratio} (ha : 1 ≤ a.d) (hb : 1 ≤ b.d) : ltR a b = true ↔ vR a < vR b := by
  unfold ltR vR
  rw [vq_lt (by omega) (by omega), decide_eq_true_eq]
theorem low_red {n d : Int} (hn : 1 ≤ n) (hd : 1 ≤ d) : redR (lowR n d) ∧ vR (lowR n d) = vq n d := by
  obtain ⟨a, rfl⟩ := Int.eq_ofNat_of_zero_le (show 0 ≤ n by omega)
  obtain ⟨b, rfl⟩ := Int.eq_ofNat_of_zero_le (show 0 ≤ d by omega)
  have hg : 0 < a.gcd b := Nat.gcd_pos_of_pos_left b (by omega)
  have e1 : (a : Int) / gcdI a b = ((a / a.gcd b : Nat) : Int) := by simp [gcdI]
  have e2 : (b : Int) / gcdI a b = ((b / a.gcd b : Nat) : Int) := by simp [gcdI]
  have p1 : 0 < a / a.gcd b := Nat.div_pos (Nat.le_of_dvd (by omega) (Nat.gcd_dvd_left a b)) hg
  have p2 : 0 < b / a.gcd b := Nat.div_pos (Nat.le_of_dvd (by omega) (Nat.gcd_dvd_right a b)) hg
  refine ⟨⟨?_, ?_, ?_⟩, ?_⟩
  · show 1 ≤ (a : Int) / gcdI a b
    rw [e1]; omega
  · show 1 ≤ (b : Int) / gcdI a b
    rw [e2]; omega
  · show Int.gcd ((b : Int) / gcdI a b) ((a : Int) / gcdI a b) = 1
    rw [e1, e2, Int.gcd_natCast_natCast, Nat.gcd_comm]
    exact Nat.coprime_div_gcd_div_gcd hg
  · unfold vR lowR
    refine vq_low (by simp only [gcdI, Int.toNat_natCast]; omega) ?_ ?_
    · simp only [gcdI, Int.toNat_natCast]; exact Int.natCast_dvd_natCast.2 (Nat.gcd_dvd_left a b)
    · simp only [gcdI, Int.toNat_natCast]; exact Int.natCast_dvd_natCast.2 (Nat.gcd_dvd_right a b)
/-- A chain is what a walk comes to. -/
def RealC (es : List Edge) (src n b : Nat) (c : Chn) : Prop := ∃ w, w.length = n ∧ Wk es src w b ∧ vR c.q = prE w ∧ c.why = w.map Edge.why ∧ redR c.q
theorem real_with {es : List Edge} {src n : Nat} {c : Chn} {e : Edge} (hb : edgeB e) (he : e ∈ es) (h : RealC es src n e.src.toNat c) : RealC es src (n + 1) e.dst.toNat (withC c e) ∧ vR (withC c e).q = vR c.q * vR e.q := by
  obtain ⟨w, h1, h2, h3, h4, h5⟩ := h
  have hn : 1 ≤ c.q.n * e.q.n := by have := Int.mul_le_mul h5.1 hb.2.2.2.2.1 (by omega) (by have := h5.1; omega); omega
  have hd : 1 ≤ c.q.d * e.q.d := by have := Int.mul_le_mul h5.2.1 hb.2.2.2.2.2.2.1 (by omega) (by have := h5.2.1; omega); omega
  obtain ⟨l1, l2⟩ := low_red hn hd
  have hv : vR (withC c e).q = vR c.q * vR e.q := by
    unfold vR withC
    simp only
    rw [show vq (lowR (c.q.n * e.q.n) (c.q.d * e.q.d)).n (lowR (c.q.n * e.q.n) (c.q.d * e.q.d)).d = vR (lowR (c.q.n * e.q.n) (c.q.d * e.q.d)) from rfl, l2, vq_mul]
  refine ⟨⟨w ++ [e], by simp [h1], wk_snoc h2 he, by rw [hv, prE_snoc, h3], by simp [withC, h4], l1⟩, hv⟩
def redN (net : Net) : Prop := ∀ (j : Nat) (c : Chn), net[j]? = some (some c) → redR c.q
theorem put_self {next : Net} {j : Nat} {c : Chn} (hj : j < next.length) (hr : redN next) (hc : redR c.q) :
    ∃ c', (putE next j c)[j]? = some (some c') ∧ vR c'.q ≤ vR c.q ∧ (c' = c ∨ next[j]? = some (some c')) ∧ ∀ b, next[j]? = some (some b) → vR c'.q ≤ vR b.q := by
  unfold putE
  split
  · rename_i b hb
    have hbr := hr j b hb
    split
    · rename_i hlt
      have := (ltR_iff hc.2.1 hbr.2.1).1 hlt
      refine ⟨c, by rw [List.getElem?_set]; simp [hj], Rat.le_refl, .inl rfl, fun b' hb' => ?_⟩
      rw [hb] at hb'; cases hb'
      exact Rat.le_of_lt this
    · rename_i hlt
      refine ⟨b, hb, ?_, .inr hb, fun b' hb' => by rw [hb] at hb'; cases hb'; exact Rat.le_refl⟩
      rw [← Rat.not_lt]
      exact fun h => hlt ((ltR_iff hc.2.1 hbr.2.1).2 h)
  · rename_i hno
    exact ⟨c, by rw [List.getElem?_set]; simp [hj], Rat.le_refl, .inl rfl, fun b hb => absurd hb (fun h => hno b h)⟩
theorem put_other {next : Net} {i j : Nat} {c : Chn} (h : i ≠ j) : (putE next j c)[i]? = next[i]? := by
  unfold putE
  split
  · split
    · rw [List.getElem?_set_ne (Ne.symm h)]
    · rfl
  · rw [List.getElem?_set_ne (Ne.symm h)]
theorem put_len {next : Net} {j : Nat} {c : Chn} : (putE next j c).length = next.length := by
  unfold putE; split <;> (try split) <;> simp
theorem put_red {next : Net} {j : Nat} {c : Chn} (hr : redN next) (hc : redR c.q) : redN (putE next j c) := by
  intro i c' hi
  by_cases h : i = j
  · subst h
    by_cases hl : i < next.length
    · obtain ⟨d, h1, _, h3, _⟩ := put_self hl hr hc
      rw [h1] at hi; cases hi
      rcases h3 with rfl | h3
      · exact hc
      · exact hr _ _ h3
    · have : (putE next i c).length ≤ i := by rw [put_len]; omega
      rw [List.getElem?_eq_none this] at hi; cases hi
  · rw [put_other h] at hi; exact hr _ _ hi
/-- All that a net says of walks of n zI. -/
def Exact (es : List Edge) (src n : Nat) (net : Net) : Prop := net.length = 5 ∧ (∀ b c, net[b]? = some (some c) → RealC es src n b c) ∧ ∀ b w, w.length = n → Wk es src w b → ∃ c, net[b]? = some (some c) ∧ vR c.q ≤ prE w
def Half (es : List Edge) (src n : Nat) (now : Net) (done : List Edge) (next : Net) : Prop :=
  next.length = 5 ∧ (∀ b c, next[b]? = some (some c) → RealC es src (n + 1) b c) ∧ ∀ e ∈ done, ∀ c', now[e.src.toNat]? = some (some c') → ∃ c, next[e.dst.toNat]? = some (some c) ∧ vR c.q ≤ vR c'.q * vR e.q
theorem real_red {es : List Edge} {src n b : Nat} {c : Chn} (h : RealC es src n b c) : redR c.q := h.choose_spec.2.2.2.2
theorem half_step {es : List Edge} {src n : Nat} {now next : Net} {done : List Edge} {e : Edge} (hnow : Exact es src n now) (hb : edgeB e) (he : e ∈ es) (h : Half es src n now done next) : Half es src n now (done ++ [e]) (stepE now next e) := by
  obtain ⟨h1, h2, h3⟩ := h
  have hr : redN next := fun j c hj => real_red (h2 j c hj)
  have hdst : e.dst.toNat < next.length := by have := hb.2.2.1; have := hb.2.2.2.1; omega
  unfold stepE
  split
  · rename_i c0 hc0
    obtain ⟨r1, r2⟩ := real_with hb he (hnow.2.1 _ _ hc0)
    obtain ⟨c', s1, s2, s3, s4⟩ := put_self hdst hr (real_red r1)
    refine ⟨by rw [put_len]; exact h1, fun b c hbc => ?_, fun e' he' c1 hc1 => ?_⟩
    · by_cases hbe : b = e.dst.toNat
      · subst hbe
        rw [s1] at hbc; cases hbc
        rcases s3 with rfl | s3
        · exact r1
        · exact h2 _ _ s3
      · rw [put_other hbe] at hbc; exact h2 _ _ hbc
    · rcases List.mem_append.1 he' with he' | he'
      · obtain ⟨c2, k1, k2⟩ := h3 e' he' c1 hc1
        by_cases hbe : e'.dst.toNat = e.dst.toNat
        · rw [hbe] at k1 ⊢
          exact ⟨c', s1, Rat.le_trans (s4 c2 k1) k2⟩
        · exact ⟨c2, by rw [put_other hbe]; exact k1, k2⟩
      · rcases List.mem_singleton.1 he' with rfl
        rw [hc0] at hc1; cases hc1
        exact ⟨c', s1, by rw [← r2]; exact s2⟩
  · rename_i hno
    refine ⟨h1, h2, fun e' he' c1 hc1 => ?_⟩
    rcases List.mem_append.1 he' with he' | he'
    · exact h3 e' he' c1 hc1
    · rcases List.mem_singleton.1 he' with rfl
      exact absurd hc1 (hno c1)
theorem half_fold {es : List Edge} {src n : Nat} {now : Net} (hnow : Exact es src n now) : ∀ (l done : List Edge) (next : Net), (∀ e ∈ l, edgeB e ∧ e ∈ es) → Half es src n now done next → Half es src n now (done ++ l) (l.foldl (stepE now) next)
  | [], done, next, _, h => by rw [List.append_nil]; exact h
  | e :: l, done, next, hl, h => by
    have := half_fold hnow l (done ++ [e]) (stepE now next e) (fun e' he' => hl e' (List.mem_cons_of_mem _ he')) (half_step hnow (hl e (by simp)).1 (hl e (by simp)).2 h)
    rw [List.append_assoc] at this
    exact this
theorem edge_pos {e : Edge} (h : edgeB e) : 0 < vR e.q := vq_pos (by have := h.2.2.2.2.1; omega) (by have := h.2.2.2.2.2.2.1; omega)
theorem snoc_of {w : List Edge} {n : Nat} (h : w.length = n + 1) : ∃ v e, w = v ++ [e] ∧ v.length = n := by
  have hne : w ≠ [] := by intro h'; rw [h'] at h; simp at h
  refine ⟨w.dropLast, w.getLast hne, (List.dropLast_concat_getLast hne).symm, ?_⟩
  rw [List.length_dropLast]; omega
theorem exact_step {es : List Edge} {src n : Nat} {now : Net} (hes : ∀ e ∈ es, edgeB e) (hnow : Exact es src n now) : Exact es src (n + 1) (es.foldl (stepE now) zV) := by
  have h0 : Half es src n now [] zV := ⟨rfl, fun b c h => by
    have hm := List.mem_of_getElem? h
    simp [zV] at hm, fun e he => by cases he⟩
  obtain ⟨h1, h2, h3⟩ := half_fold hnow es [] zV (fun e he => ⟨hes e he, he⟩) h0
  rw [List.nil_append] at h3
  refine ⟨h1, h2, fun b w hw hk => ?_⟩
  obtain ⟨v, e, rfl, hv⟩ := snoc_of hw
  obtain ⟨k1, k2, rfl⟩ := wk_unsnoc hk
  obtain ⟨c', g1, g2⟩ := hnow.2.2 _ v hv k1
  obtain ⟨c, f1, f2⟩ := h3 e k2 c' g1
  refine ⟨c, f1, Rat.le_trans f2 ?_⟩
  rw [prE_snoc]
  exact Rat.mul_le_mul_of_nonneg_right g2 (Rat.le_of_lt (edge_pos (hes e k2)))
theorem merge_spec : ∀ (l : List (Option Chn)) (i : Nat) (out : Net), i + l.length ≤ out.length → redN out → (∀ c, some c ∈ l → redR c.q) →
    (mergeL l i out).length = out.length ∧ redN (mergeL l i out) ∧ ∀ b,
      (∀ c, (mergeL l i out)[b]? = some (some c) → out[b]? = some (some c) ∨ (i ≤ b ∧ l[b - i]? = some (some c))) ∧
      (∀ c, out[b]? = some (some c) → ∃ c', (mergeL l i out)[b]? = some (some c') ∧ vR c'.q ≤ vR c.q) ∧
      (∀ c, i ≤ b → l[b - i]? = some (some c) → ∃ c', (mergeL l i out)[b]? = some (some c') ∧ vR c'.q ≤ vR c.q)
  | [], i, out, _, hr, _ => ⟨rfl, hr, fun b => ⟨fun c h => .inl h, fun c h => ⟨c, h, Rat.le_refl⟩, fun c _ h => by cases h⟩⟩
  | none :: r, i, out, hl, hr, hc => by
    obtain ⟨m1, m2, m3⟩ := merge_spec r (i + 1) out (by simp at hl; omega) hr (fun c h => hc c (List.mem_cons_of_mem _ h))
    refine ⟨m1, m2, fun b => ⟨fun c h => ?_, (m3 b).2.1, fun c hib h => ?_⟩⟩
    · rcases (m3 b).1 c h with h | ⟨h, h'⟩
      · exact .inl h
      · refine .inr ⟨by omega, ?_⟩
        rw [show b - i = (b - (i + 1)) + 1 by omega, List.getElem?_cons_succ]; exact h'
    · by_cases hb : b = i
      · subst hb; rw [Nat.sub_self, List.getElem?_cons_zero] at h; cases h
      · refine (m3 b).2.2 c (by omega) ?_
        rw [show b - i = (b - (i + 1)) + 1 by omega, List.getElem?_cons_succ] at h; exact h
  | some c0 :: r, i, out, hl, hr, hc => by
    have hc0 := hc c0 (by simp)
    have hi : i < out.length := by simp at hl; omega
    obtain ⟨m1, m2, m3⟩ := merge_spec r (i + 1) (putE out i c0) (by rw [put_len]; simp at hl; omega) (put_red hr hc0) (fun c h => hc c (List.mem_cons_of_mem _ h))
    obtain ⟨d, s1, s2, s3, s4⟩ := put_self hi hr hc0
    refine ⟨by rw [← put_len (next := out) (j := i) (c := c0)]; exact m1, m2, fun b => ⟨fun c h => ?_, fun c h => ?_, fun c hib h => ?_⟩⟩
    · rcases (m3 b).1 c h with h | ⟨h, h'⟩
      · by_cases hb : b = i
        · subst hb
          rw [s1] at h; cases h
          rcases s3 with rfl | s3
          · exact .inr ⟨Nat.le_refl _, by rw [Nat.sub_self]; rfl⟩
          · exact .inl s3
        · rw [put_other hb] at h; exact .inl h
      · refine .inr ⟨by omega, ?_⟩
        rw [show b - i = (b - (i + 1)) + 1 by omega, List.getElem?_cons_succ]; exact h'
    · by_cases hb : b = i
      · subst hb
        obtain ⟨c', k1, k2⟩ := (m3 b).2.1 d s1
        exact ⟨c', k1, Rat.le_trans k2 (s4 c h)⟩
      · exact (m3 b).2.1 c (by rw [put_other hb]; exact h)
    · by_cases hb : b = i
      · subst hb
        rw [Nat.sub_self, List.getElem?_cons_zero] at h; cases h
        obtain ⟨c', k1, k2⟩ := (m3 b).2.1 d s1
        exact ⟨c', k1, Rat.le_trans k2 s2⟩
      · refine (m3 b).2.2 c (by omega) ?_
        rw [show b - i = (b - (i + 1)) + 1 by omega, List.getElem?_cons_succ] at h; exact h
/-- All that a net says of walks of at most n zI. -/
def Upto (es : List Edge) (src n : Nat) (out : Net) : Prop := out.length = 5 ∧ (∀ b c, out[b]? = some (some c) → ∃ m, 1 ≤ m ∧ m ≤ n ∧ RealC es src m b c) ∧ ∀ b w, 1 ≤ w.length → w.length ≤ n → Wk es src w b → ∃ c, out[b]? = some (some c) ∧ vR c.q ≤ prE w
theorem rounds_spec {es : List Edge} {src : Nat} (hes : ∀ e ∈ es, edgeB e) : ∀ (j n : Nat) (now out : Net), Exact es src n now → Upto es src n out → Upto es src (n + j) (roundsN es j now out)
  | 0, _, _, _, _, h => h
  | j + 1, n, now, out, hnow, hout => by
    have hx := exact_step hes hnow
    have hro : redN out := fun b c h => by
      obtain ⟨m, _, _, h⟩ := hout.2.1 b c h
      exact real_red h
    have hrx : ∀ c, some c ∈ es.foldl (stepE now) zV → redR c.q := fun c h => by
      obtain ⟨b, hb⟩ := List.mem_iff_getElem?.1 h
      exact real_red (hx.2.1 b c hb)
    obtain ⟨m1, m2, m3⟩ := merge_spec (es.foldl (stepE now) zV) 0 out (by rw [hx.1, hout.1]; omega) hro hrx
    have hu : Upto es src (n + 1) (mergeL (es.foldl (stepE now) zV) 0 out) := by
      refine ⟨by rw [m1]; exact hout.1, fun b c h => ?_, fun b w h1 h2 hk => ?_⟩
      · rcases (m3 b).1 c h with h | ⟨_, h⟩
        · obtain ⟨m, k1, k2, k3⟩ := hout.2.1 b c h
          exact ⟨m, k1, by omega, k3⟩
        · exact ⟨n + 1, by omega, Nat.le_refl _, hx.2.1 b c h⟩
      · by_cases hw : w.length = n + 1
        · obtain ⟨c, k1, k2⟩ := hx.2.2 b w hw hk
          obtain ⟨c', g1, g2⟩ := (m3 b).2.2 c (Nat.zero_le _) k1
          exact ⟨c', g1, Rat.le_trans g2 k2⟩
        · obtain ⟨c, k1, k2⟩ := hout.2.2 b w h1 (by omega) hk
          obtain ⟨c', g1, g2⟩ := (m3 b).2.1 c k1
          exact ⟨c', g1, Rat.le_trans g2 k2⟩
    have := rounds_spec hes j (n + 1) _ _ hx hu
    rw [show n + (j + 1) = n + 1 + j by omega]
    exact this
theorem chains_spec {es : List Edge} {src : Nat} (hes : ∀ e ∈ es, edgeB e) (hs : src < 5) (most : Nat) : Upto es src most (zN es src most) := by
  have h0 : Exact es src 0 (zV.set src (some ⟨⟨1, 1⟩, []⟩)) := by
    refine ⟨by simp [zV], fun b c h => ?_, fun b w hw hk => ?_⟩
    · by_cases hb : b = src
      · subst hb
        rw [List.getElem?_set] at h
        simp only [if_true] at h
        split at h
        · cases h
          exact ⟨[], rfl, wk_nil _ _, vq_one, rfl, by decide, by decide, by decide⟩
        · cases h
      · rw [List.getElem?_set_ne (Ne.symm hb)] at h
        have hm := List.mem_of_getElem? h
        simp [zV] at hm
    · have : w = [] := List.length_eq_zero_iff.1 hw
      subst this
      have : src = b := hk.1
      subst this
      exact ⟨⟨⟨1, 1⟩, []⟩, by rw [List.getElem?_set]; simp [zV, hs], by show vq 1 1 ≤ 1; rw [vq_one]; exact Rat.le_refl⟩
  have h1 : Upto es src 0 zV := by
    refine ⟨rfl, fun b c h => ?_, fun b w h1 h2 => by omega⟩
    have hm := List.mem_of_getElem? h
    simp [zV] at hm
  have := rounds_spec hes most 0 _ _ h0 h1
  rw [Nat.zero_add] at this
  exact this
end Go.VS
/-
  What a paper allows: least quotients between any two nodes. (A text of this claim's own; nothing of it is trusted.)
-/
namespace Go.VS
open Go Go.VS.Walks
theorem edge_nodes {p : Paper} (hok : zt p = true) {ax : Int} {e : Edge} (he : e ∈ zI p ax) : edgeB e ∧ e.src ≤ p.sheets ∧ e.dst ≤ p.sheets := by
  obtain ⟨o1, o2, o3, o4, o5, o6⟩ := zJ hok
  simp only [zI, List.mem_append, List.mem_flatMap, List.mem_range'_1] at he
  rcases he with (⟨i, hi, he⟩ | he) | he
  · simp [sheetE] at he
    unfold edgeB
    rcases he with rfl | rfl <;> simp only [] <;> omega
  · obtain ⟨m, k, h1, h2, h3⟩ := marksE_mem ax he
    refine ⟨edge_of_mark (o5 m h1) o2 k e h3, ?_⟩
    have := o5 m h1
    simp [markOK, zA, isAxis, isSeen] at this
    simp [markE] at h3
    rcases h3 with rfl | rfl <;> simp only [] <;> omega
  · obtain ⟨m, k, h1, h2, h3⟩ := joinsE_mem ax he
    refine ⟨edge_of_join (o6 m h1) o2 k e h3, ?_⟩
    have := o6 m h1
    simp [joinOK, zA, isAxis, isSeen] at this
    simp [joinE] at h3
    rcases h3 with rfl | rfl <;> simp only [] <;> omega
theorem inE_walk {es : List Edge} {l : List T} : ∀ {a b : Nat}, Ch (inE es) a l b → ∃ w, w.map tE = l ∧ Wk es a w b := by
  induction l with
  | nil => intro a b h; exact ⟨[], rfl, h, fun _ h => by cases h⟩
  | cons t l ih =>
    intro a b h
    obtain ⟨⟨e, he, rfl⟩, h2, h3⟩ := h
    obtain ⟨w, rfl, hw⟩ := ih h3
    exact ⟨e :: w, rfl, ⟨⟨e, he, rfl⟩, h2, hw.1⟩, fun e' h' => by
      rcases List.mem_cons.1 h' with rfl | h'
      · exact he
      · exact hw.2 e' h'⟩
theorem clash_none {es : List Edge} : ∀ {j i : Nat}, clashFrom es j i = none → ∀ k, i ≤ k → k < i + j → ∀ c, (zN es k 5)[k]? = some (some c) → ltR c.q one1 = false
  | 0, i, _, k, h1, h2, _, _ => by omega
  | j + 1, i, h, k, h1, h2, c, hc => by
    unfold clashFrom at h
    by_cases hk : k = i
    · subst hk
      rw [hc] at h
      simp only at h
      split at h
      · cases h
      · rename_i hx; simpa using hx
    · refine clash_none (j := j) (i := i + 1) ?_ k (by omega) (by omega) c hc
      split at h
      · split at h
        · cases h
        · exact h
      · exact h
theorem in_pos {p : Paper} (hok : zt p = true) {ax : Int} {t : T} (h : inE (zI p ax) t) : 0 < t.w ∧ t.src < 5 ∧ t.dst < 5 := by
  obtain ⟨e, he, rfl⟩ := h
  have hb := (edge_nodes hok he).1
  refine ⟨edge_pos hb, ?_, ?_⟩
  · show e.src.toNat < 5
    have := hb.1; have := hb.2.1; omega
  · show e.dst.toNat < 5
    have := hb.2.2.1; have := hb.2.2.2.1; omega
theorem one_vR : vR one1 = 1 := vq_one
theorem fair {p : Paper} (hok : zt p = true) {ax : Int} (hc : clashA p ax = none) : Walks.Fair (inE (zI p ax)) 5 := by
  obtain ⟨o1, o2, -⟩ := zJ hok
  intro a l hl hlen
  obtain ⟨w, rfl, hw⟩ := inE_walk hl
  cases w with
  | nil => exact Rat.le_refl
  | cons e w =>
    have hin : e ∈ zI p ax := hw.2 e (by simp)
    have hsrc : e.src.toNat = a := hl.2.1
    obtain ⟨hb, hs, _⟩ := edge_nodes hok hin
    have h5 : a < 5 := by have := hb.1; have := hb.2.1; omega
    obtain ⟨c, c1, c2⟩ := (chains_spec (fun e he => (edge_nodes hok he).1) h5 5).2.2 a (e :: w) (by simp) (by simpa using hlen) hw
    have hr : redR c.q := by
      obtain ⟨m, _, _, h⟩ := (chains_spec (fun e he => (edge_nodes hok he).1) h5 5).2.1 a c c1
      exact real_red h
    have hn := clash_none hc a (Nat.zero_le _) (by have := hb.1; omega) c c1
    have : ¬ vR c.q < vR one1 := fun h => by
      rw [← ltR_iff hr.2.1 (by decide)] at h
      rw [hn] at h; cases h
    rw [Rat.not_lt, one_vR] at this
    exact Rat.le_trans this c2
/-- The least quotient between two nodes. -/
def distF (p : Paper) (ax : Int) (s t : Nat) : Ratio := if s = t then one1 else (chnOr (((zN (zI p ax) s 4)[t]?).join)).q
def distC (p : Paper) (ax : Int) (s t : Nat) : Chn := chnOr (((zN (zI p ax) s 4)[t]?).join)
theorem walk_some {p : Paper} (_ : zt p = true) (ax : Int) {s t : Nat} (hs : s < 1 + p.sheets) (ht : t < 1 + p.sheets) (hst : s ≠ t) : ∃ w, 1 ≤ w.length ∧ w.length ≤ 2 ∧ Wk (zI p ax) s w t := by
  have hin : ∀ i : Nat, (i : Int) < p.sheets → ∀ e ∈ sheetE i, e ∈ zI p ax := by
    intro i hi e he
    simp only [zI, List.mem_append, List.mem_flatMap, List.mem_range'_1]
    exact .inl (.inl ⟨i, by omega, he⟩)
  have out : ∀ i : Nat, (i : Int) < p.sheets → Wk (zI p ax) (1 + i) [⟨1 + i, 0, ⟨2, 1⟩, ⟨false, -1 - i, false⟩⟩] 0 := by
    intro i hi
    have := wk_one (hin i hi ⟨1 + i, 0, ⟨2, 1⟩, ⟨false, -1 - i, false⟩⟩ (by simp [sheetE]))
    rwa [show ((1 + (i : Int)).toNat) = 1 + i by omega] at this
  have back : ∀ i : Nat, (i : Int) < p.sheets → Wk (zI p ax) 0 [⟨0, 1 + i, ⟨2, 1⟩, ⟨false, -1 - i, true⟩⟩] (1 + i) := by
    intro i hi
    have := wk_one (hin i hi ⟨0, 1 + i, ⟨2, 1⟩, ⟨false, -1 - i, true⟩⟩ (by simp [sheetE]))
    rwa [show ((1 + (i : Int)).toNat) = 1 + i by omega] at this
  rcases Nat.eq_zero_or_pos s with rfl | hs0
  · have := back (t - 1) (by omega)
    rw [show 1 + (t - 1) = t by omega] at this
    exact ⟨_, by simp, by simp, this⟩
  · have h1 := out (s - 1) (by omega)
    rw [show 1 + (s - 1) = s by omega] at h1
    rcases Nat.eq_zero_or_pos t with rfl | ht0
    · exact ⟨_, by simp, by simp, h1⟩
    · have h2 := back (t - 1) (by omega)
      rw [show 1 + (t - 1) = t by omega] at h2
      exact ⟨_, by simp, by simp, wk_append h1 h2⟩
theorem dist_some {p : Paper} (hok : zt p = true) (ax : Int) {s t : Nat} (hs : s < 1 + p.sheets) (ht : t < 1 + p.sheets) (hst : s ≠ t) : (zN (zI p ax) s 4)[t]? = some (some (distC p ax s t)) := by
  obtain ⟨o1, o2, -⟩ := zJ hok
  obtain ⟨w, w1, w2, w3⟩ := walk_some hok ax hs ht hst
  obtain ⟨c, h, _⟩ := (chains_spec (fun e he => (edge_nodes hok he).1) (show s < 5 by omega) 4).2.2 t w w1 (by omega) w3
  unfold distC
  rw [h]; rfl
/-- What is known of a least quotient. -/
theorem dist_real {p : Paper} (hok : zt p = true) (ax : Int) {s t : Nat} (hs : s < 1 + p.sheets) (ht : t < 1 + p.sheets) : redR (distF p ax s t) ∧ ∃ w, Wk (zI p ax) s w t ∧ w.length ≤ 4 ∧ vR (distF p ax s t) = prE w := by
  obtain ⟨o1, o2, -⟩ := zJ hok
  by_cases hst : s = t
  · subst hst
    unfold distF
    rw [if_pos rfl]
    exact ⟨⟨by decide, by decide, by decide⟩, [], wk_nil _ _, by simp, one_vR⟩
  · obtain ⟨m, m1, m2, w, w1, w2, w3, w4, w5⟩ := (chains_spec (fun e he => (edge_nodes hok he).1) (show s < 5 by omega) 4).2.1 t _ (dist_some hok ax hs ht hst)
    unfold distF
    rw [if_neg hst]
    exact ⟨w5, w, w2, by omega, w3⟩
theorem dist_least {p : Paper} (hok : zt p = true) {ax : Int} (hc : clashA p ax = none) {s t : Nat} (hs : s < 1 + p.sheets) (ht : t < 1 + p.sheets) {w : List Edge} (hw : Wk (zI p ax) s w t) : vR (distF p ax s t) ≤ prE w := by
  obtain ⟨o1, o2, -⟩ := zJ hok
  have hp : ∀ t, inE (zI p ax) t → 0 < t.w := fun t h => (in_pos hok h).1
  have hn : ∀ t, inE (zI p ax) t → t.src < 5 ∧ t.dst < 5 := fun t h => (in_pos hok h).2
  by_cases hst : s = t
  · subst hst
    unfold distF
    rw [if_pos rfl, one_vR]
    exact closed_one hp hn (fair hok hc) hw.1
  · obtain ⟨r, r1, r2, r3, _⟩ := shorten hp hn (fair hok hc) _ _ (Nat.le_refl _) hw.1
    obtain ⟨v, rfl, hv⟩ := inE_walk r1
    have hne : v ≠ [] := by
      rintro rfl
      exact hst hv.1
    have hlen : 1 ≤ v.length ∧ v.length ≤ 4 := by
      constructor
      · cases v with
        | nil => exact absurd rfl hne
        | cons _ _ => simp
      · rcases r2 with r2 | r2
        · simp at r2; omega
        · simp at r2; exact absurd r2 hne
    obtain ⟨c, c1, c2⟩ := (chains_spec (fun e he => (edge_nodes hok he).1) (show s < 5 by omega) 4).2.2 t v hlen.1 hlen.2 hv
    rw [dist_some hok ax hs ht hst] at c1
    cases c1
    unfold distF
    rw [if_neg hst]
    exact Rat.le_trans c2 r3
end Go.VS
/-
  What is known along one axis depends on what is said along it alone, in any order. (A text of this claim's own; nothing of it is trusted.)
-/
namespace Go.VS
open Go Go.VS.Walks
theorem ch_mono {E E' : T → Prop} (h : ∀ t, E t → E' t) : ∀ {l : List T} {a b : Nat}, Ch E a l b → Ch E' a l b
  | [], _, _, h' => h'
  | _ :: _, _, _, h' => ⟨h _ h'.1, h'.2.1, ch_mono h h'.2.2⟩
theorem chains_le {es es' : List Edge} (hsub : ∀ t, inE es t → inE es' t) (hb : ∀ e ∈ es, edgeB e) (hb' : ∀ e ∈ es', edgeB e) {s m b : Nat} (hs : s < 5) {c : Chn} (hc : (zN es s m)[b]? = some (some c)) :
    redR c.q ∧ ∃ c', (zN es' s m)[b]? = some (some c') ∧ redR c'.q ∧ vR c'.q ≤ vR c.q := by
  obtain ⟨k, k1, k2, w, w1, w2, w3, w4, w5⟩ := (chains_spec hb hs m).2.1 b c hc
  obtain ⟨v, v1, v2⟩ := inE_walk (ch_mono hsub w2.1)
  have hl : v.length = w.length := by have := congrArg List.length v1; simpa using this
  have hp : prE v = prE w := by unfold prE; rw [v1]
  obtain ⟨c', c1, c2⟩ := (chains_spec hb' hs m).2.2 b v (by omega) (by omega) v2
  refine ⟨w5, c', c1, ?_, by rw [w3, ← hp]; exact c2⟩
  obtain ⟨_, _, _, h⟩ := (chains_spec hb' hs m).2.1 b c' c1
  exact real_red h
theorem chains_same {es es' : List Edge} (h : ∀ t, inE es t ↔ inE es' t) (hb : ∀ e ∈ es, edgeB e) (hb' : ∀ e ∈ es', edgeB e) {s m b : Nat} (hs : s < 5) {c : Chn} (hc : (zN es s m)[b]? = some (some c)) :
    ∃ c', (zN es' s m)[b]? = some (some c') ∧ c'.q = c.q := by
  obtain ⟨r1, c', c1, r2, l1⟩ := chains_le (fun t => (h t).1) hb hb' hs hc
  obtain ⟨_, c'', c2, _, l2⟩ := chains_le (fun t => (h t).2) hb' hb hs c1
  rw [hc] at c2; cases c2
  exact ⟨c', c1, red_eq r2 r1 (Rat.le_antisymm l1 l2)⟩
theorem clash_of {es : List Edge} : ∀ {j i : Nat}, (∀ k, i ≤ k → k < i + j → ∀ c, (zN es k 5)[k]? = some (some c) → ltR c.q one1 = false) → clashFrom es j i = none
  | 0, _, _ => rfl
  | j + 1, i, h => by
    have ih := clash_of (es := es) (j := j) (i := i + 1) fun k h1 h2 c hc => h k (by omega) (by omega) c hc
    unfold clashFrom
    split
    · rename_i c hc
      rw [h i (Nat.le_refl _) (by omega) c hc]
      exact ih
    · exact ih
theorem clash_same {p p' : Paper} {ax ax' : Int} (hok : zt p = true) (hok' : zt p' = true) (hs : p'.sheets = p.sheets) (h : ∀ t, inE (zI p ax) t ↔ inE (zI p' ax') t) (hc : clashA p ax = none) : clashA p' ax' = none := by
  obtain ⟨o1, o2, -⟩ := zJ hok
  refine clash_of fun k h1 h2 c' hc' => ?_
  obtain ⟨c, c1, c2⟩ := chains_same (fun t => (h t).symm) (fun e he => (edge_nodes hok' he).1) (fun e he => (edge_nodes hok he).1) (show k < 5 by omega) hc'
  rw [← c2]
  exact clash_none hc k h1 (by rw [← hs]; exact h2) c c1
theorem dist_same {p p' : Paper} {ax ax' : Int} (hok : zt p = true) (hok' : zt p' = true) (hs : p'.sheets = p.sheets) (h : ∀ t, inE (zI p ax) t ↔ inE (zI p' ax') t) {s t : Nat} (h1 : s < 1 + p.sheets) (h2 : t < 1 + p.sheets) : distF p' ax' s t = distF p ax s t := by
  obtain ⟨o1, o2, -⟩ := zJ hok
  by_cases hst : s = t
  · subst hst; unfold distF; rw [if_pos rfl, if_pos rfl]
  · have e1 := dist_some hok ax h1 h2 hst
    have e2 := dist_some hok' ax' (show (s : Int) < 1 + p'.sheets by omega) (show (t : Int) < 1 + p'.sheets by omega) hst
    obtain ⟨c, c1, c2⟩ := chains_same h (fun e he => (edge_nodes hok he).1) (fun e he => (edge_nodes hok' he).1) (show s < 5 by omega) e1
    rw [e2] at c1; cases c1
    unfold distF
    rw [if_neg hst, if_neg hst]
    exact c2
/-! ### what is said along an axis -/
def mT (m : Mark) : List T := (markE m 0).map tE
def jT (j : Join) : List T := (joinE j 0).map tE
def sT (i : Nat) : List T := (sheetE i).map tE
theorem marksE_T (ax : Int) (t : T) : ∀ (l : List Mark) (i : Nat), (∃ e, e ∈ marksE ax l i ∧ tE e = t) ↔ ∃ m ∈ l, m.axis = ax ∧ t ∈ mT m
  | [], i => by simp [marksE]
  | m :: l, i => by
    have hm : ∀ k, t ∈ mT m ↔ ∃ e ∈ markE m k, tE e = t := by
      intro k; unfold mT; rw [show (markE m 0).map tE = (markE m k).map tE from rfl, List.mem_map]
    have ih := marksE_T ax t l (i + 1)
    constructor
    · rintro ⟨e, he, rfl⟩
      simp only [marksE, List.mem_append] at he
      rcases he with he | he
      · split at he
        · rename_i hax; exact ⟨m, by simp, hax, (hm i).2 ⟨e, he, rfl⟩⟩
        · cases he
      · obtain ⟨m', h1, h2, h3⟩ := ih.1 ⟨e, he, rfl⟩
        exact ⟨m', List.mem_cons_of_mem _ h1, h2, h3⟩
    · rintro ⟨m', h1, h2, h3⟩
      rcases List.mem_cons.1 h1 with rfl | h1
      · obtain ⟨e, he, h⟩ := (hm i).1 h3
        exact ⟨e, by simp only [marksE, List.mem_append, h2, if_true]; exact .inl he, h⟩
      · obtain ⟨e, he, h⟩ := ih.2 ⟨m', h1, h2, h3⟩
        exact ⟨e, by simp only [marksE, List.mem_append]; exact .inr he, h⟩
theorem joinsE_T (ax : Int) (t : T) : ∀ (l : List Join) (i : Nat), (∃ e, e ∈ joinsE ax l i ∧ tE e = t) ↔ ∃ m ∈ l, m.axis = ax ∧ t ∈ jT m
  | [], i => by simp [joinsE]
  | m :: l, i => by
    have hm : ∀ k, t ∈ jT m ↔ ∃ e ∈ joinE m k, tE e = t := by
      intro k; unfold jT; rw [show (joinE m 0).map tE = (joinE m k).map tE from rfl, List.mem_map]
    have ih := joinsE_T ax t l (i + 1)
    constructor
    · rintro ⟨e, he, rfl⟩
      simp only [joinsE, List.mem_append] at he
      rcases he with he | he
      · split at he
        · rename_i hax; exact ⟨m, by simp, hax, (hm i).2 ⟨e, he, rfl⟩⟩
        · cases he
      · obtain ⟨m', h1, h2, h3⟩ := ih.1 ⟨e, he, rfl⟩
        exact ⟨m', List.mem_cons_of_mem _ h1, h2, h3⟩
    · rintro ⟨m', h1, h2, h3⟩
      rcases List.mem_cons.1 h1 with rfl | h1
      · obtain ⟨e, he, h⟩ := (hm i).1 h3
        exact ⟨e, by simp only [joinsE, List.mem_append, h2, if_true]; exact .inl he, h⟩
      · obtain ⟨e, he, h⟩ := ih.2 ⟨m', h1, h2, h3⟩
        exact ⟨e, by simp only [joinsE, List.mem_append]; exact .inr he, h⟩
theorem inE_edges {p : Paper} {ax : Int} {t : T} : inE (zI p ax) t ↔ (∃ i, i < p.sheets.toNat ∧ t ∈ sT i) ∨ (∃ m ∈ p.marks, m.axis = ax ∧ t ∈ mT m) ∨ (∃ m ∈ p.joins, m.axis = ax ∧ t ∈ jT m) := by
  rw [← marksE_T ax t p.marks 0, ← joinsE_T ax t p.joins 0]
  unfold inE zI
  constructor
  · rintro ⟨e, he, rfl⟩
    simp only [List.mem_append, List.mem_flatMap, List.mem_range'_1] at he
    rcases he with (⟨i, hi, he⟩ | he) | he
    · exact .inl ⟨i, by omega, List.mem_map.2 ⟨e, he, rfl⟩⟩
    · exact .inr (.inl ⟨e, he, rfl⟩)
    · exact .inr (.inr ⟨e, he, rfl⟩)
  · rintro (⟨i, hi, h⟩ | ⟨e, he, rfl⟩ | ⟨e, he, rfl⟩)
    · obtain ⟨e, he, rfl⟩ := List.mem_map.1 h
      refine ⟨e, ?_, rfl⟩
      simp only [List.mem_append, List.mem_flatMap, List.mem_range'_1]
      exact .inl (.inl ⟨i, by omega, he⟩)
    · exact ⟨e, by simp only [List.mem_append]; exact .inl (.inr he), rfl⟩
    · exact ⟨e, by simp only [List.mem_append]; exact .inr he, rfl⟩
/-- The paper of what is said along one axis, the other way round. -/
def ownM (p : Paper) (ax : Int) : List Mark := (p.marks.filter fun m => decide (m.axis = ax)).reverse
def ownJ (p : Paper) (ax : Int) : List Join := (p.joins.filter fun m => decide (m.axis = ax)).reverse
def ownP (p : Paper) (ax : Int) : Paper := ⟨p.sheets, (ownM p ax).isEmpty, ownM p ax, (ownJ p ax).isEmpty, ownJ p ax⟩
theorem mem_ownM {p : Paper} {ax : Int} {m : Mark} : m ∈ ownM p ax ↔ m ∈ p.marks ∧ m.axis = ax := by simp [ownM]
theorem mem_ownJ {p : Paper} {ax : Int} {m : Join} : m ∈ ownJ p ax ↔ m ∈ p.joins ∧ m.axis = ax := by simp [ownJ]
theorem own_wf {p : Paper} {ax : Int} (hwf : p.wf) : (ownP p ax).wf := by
  refine ⟨fun h => List.isEmpty_iff.1 h, fun h => List.isEmpty_iff.1 h, ?_, ?_⟩
  · have := List.length_filter_le (fun m : Mark => decide (m.axis = ax)) p.marks
    have := hwf.2.2.1
    simp only [ownP, ownM, List.length_reverse]; omega
  · have := List.length_filter_le (fun m : Join => decide (m.axis = ax)) p.joins
    have := hwf.2.2.2
    simp only [ownP, ownJ, List.length_reverse]; omega
theorem own_ok {p : Paper} {ax : Int} (hok : zt p = true) : zt (ownP p ax) = true := by
  obtain ⟨o1, o2, o3, o4, o5, o6⟩ := zJ hok
  have l1 := List.length_filter_le (fun m : Mark => decide (m.axis = ax)) p.marks
  have l2 := List.length_filter_le (fun m : Join => decide (m.axis = ax)) p.joins
  simp only [zt, Bool.and_eq_true, decide_eq_true_eq, List.all_eq_true]
  refine ⟨⟨⟨⟨⟨o1, o2⟩, ?_⟩, ?_⟩, fun m hm => ?_⟩, fun m hm => ?_⟩
  · show (ownM p ax).length ≤ 24
    simp only [ownM, List.length_reverse]; omega
  · show (ownJ p ax).length ≤ 24
    simp only [ownJ, List.length_reverse]; omega
  · exact o5 m (mem_ownM.1 hm).1
  · exact o6 m (mem_ownJ.1 hm).1
theorem own_edges {p : Paper} {ax : Int} (t : T) : inE (zI p ax) t ↔ inE (zI (ownP p ax) ax) t := by
  rw [inE_edges, inE_edges]
  refine or_congr Iff.rfl (or_congr ?_ ?_)
  · constructor
    · rintro ⟨m, h1, h2, h3⟩; exact ⟨m, mem_ownM.2 ⟨h1, h2⟩, h2, h3⟩
    · rintro ⟨m, h1, h2, h3⟩; exact ⟨m, (mem_ownM.1 h1).1, h2, h3⟩
  · constructor
    · rintro ⟨m, h1, h2, h3⟩; exact ⟨m, mem_ownJ.2 ⟨h1, h2⟩, h2, h3⟩
    · rintro ⟨m, h1, h2, h3⟩; exact ⟨m, (mem_ownJ.1 h1).1, h2, h3⟩
theorem own_other {p : Paper} {ax ax' : Int} (hne : ax' ≠ ax) {t : T} (h : inE (zI (ownP p ax) ax') t) : t.w = 2 := by
  rcases inE_edges.1 h with ⟨i, _, h⟩ | ⟨m, h1, h2, _⟩ | ⟨m, h1, h2, _⟩
  · simp only [sT, sheetE, List.map_cons, List.map_nil, List.mem_cons, List.not_mem_nil, or_false] at h
    have h2 : vR ⟨2, 1⟩ = 2 := by decide
    rcases h with rfl | rfl <;> (simp only [tE]; exact h2)
  · exact absurd (h2.symm.trans (mem_ownM.1 h1).2) hne
  · exact absurd (h2.symm.trans (mem_ownJ.1 h1).2) hne
theorem pr_two {E : T → Prop} (hE : ∀ t, E t → t.w = 2) : ∀ {l : List T} {a b : Nat}, Ch E a l b → 1 ≤ pr l ∧ (l ≠ [] → 2 ≤ pr l)
  | [], _, _, _ => ⟨Rat.le_refl, fun h => absurd rfl h⟩
  | t :: l, _, _, h => by
    have ih := (pr_two hE h.2.2).1
    have h2 : (2 : Rat) ≤ pr (t :: l) := by
      show (2 : Rat) ≤ t.w * pr l
      rw [hE t h.1]
      have := Rat.mul_le_mul_of_nonneg_left ih (show (0 : Rat) ≤ 2 by decide)
      rwa [Rat.mul_one] at this
    exact ⟨Rat.le_trans (by decide) h2, fun _ => h2⟩
theorem own_clash {p : Paper} {ax ax' : Int} (hok : zt p = true) (hne : ax' ≠ ax) : clashA (ownP p ax) ax' = none := by
  obtain ⟨o1, o2, -⟩ := zJ hok
  refine clash_of fun k h1 h2 c hc => ?_
  have h5 : k < 5 := by
    have : k < 0 + (1 + p.sheets).toNat := h2
    omega
  obtain ⟨n, n1, n2, w, w1, w2, w3, w4, w5⟩ := (chains_spec (fun e he => (edge_nodes (own_ok hok) he).1) h5 5).2.1 k c hc
  have hp := (pr_two (fun t ht => own_other hne ht) w2.1).1
  cases hlt : ltR c.q one1 with
  | false => rfl
  | true =>
    rw [ltR_iff w5.2.1 (by decide), one_vR, w3] at hlt
    exact absurd hlt (Rat.not_lt.2 hp)
theorem own_dist {p : Paper} {ax ax' : Int} (hok : zt p = true) (hne : ax' ≠ ax) {i : Nat} (hi : (i : Int) < p.sheets) : distF (ownP p ax) ax' (1 + i) 0 = ⟨2, 1⟩ ∧ distF (ownP p ax) ax' 0 (1 + i) = ⟨2, 1⟩ := by
  have hok' := own_ok (ax := ax) hok
  have hc := own_clash hok hne
  have hr2 : redR ⟨2, 1⟩ := ⟨by decide, by decide, by decide⟩
  have h2 : vR ⟨2, 1⟩ = 2 := by decide
  have b1 : ((1 + i : Nat) : Int) < 1 + (ownP p ax).sheets := by show _ < 1 + p.sheets; omega
  have b0 : ((0 : Nat) : Int) < 1 + (ownP p ax).sheets := by show _ < 1 + p.sheets; omega
  have key : ∀ (s t : Nat) (w : List Edge), s ≠ t → (s : Int) < 1 + (ownP p ax).sheets → (t : Int) < 1 + (ownP p ax).sheets → Wk (zI (ownP p ax) ax') s w t → prE w = 2 → distF (ownP p ax) ax' s t = ⟨2, 1⟩ := by
    intro s t w hst hs ht hw hpr
    obtain ⟨r1, v, v1, _, v3⟩ := dist_real hok' ax' hs ht
    refine red_eq r1 hr2 (Rat.le_antisymm ?_ ?_)
    · rw [h2, ← hpr]; exact dist_least hok' hc hs ht hw
    · rw [h2, v3]
      refine (pr_two (fun t ht => own_other hne ht) v1.1).2 fun hn => hst ?_
      have h1 := v1.1
      rw [hn] at h1
      exact h1
  have hin : ∀ e ∈ sheetE i, e ∈ zI (ownP p ax) ax' := by
    intro e he
    simp only [zI, List.mem_append, List.mem_flatMap, List.mem_range'_1]
    exact .inl (.inl ⟨i, by show 0 ≤ i ∧ i < 0 + p.sheets.toNat; omega, he⟩)
  have hp1 : ∀ e ∈ sheetE i, prE [e] = 2 := by
    intro e he
    simp [sheetE] at he
    rcases he with rfl | rfl <;> (simp only [prE, pr, tE, List.map_cons, List.map_nil]; rw [h2, Rat.mul_one])
  constructor
  · have hw := wk_one (hin ⟨1 + i, 0, ⟨2, 1⟩, ⟨false, -1 - i, false⟩⟩ (by simp [sheetE]))
    rw [show ((1 + (i : Int)).toNat) = 1 + i by omega] at hw
    exact key _ _ _ (by omega) b1 b0 hw (hp1 _ (by simp [sheetE]))
  · have hw := wk_one (hin ⟨0, 1 + i, ⟨2, 1⟩, ⟨false, -1 - i, true⟩⟩ (by simp [sheetE]))
    rw [show ((1 + (i : Int)).toNat) = 1 + i by omega] at hw
    exact key _ _ _ (by omega) b0 b1 hw (hp1 _ (by simp [sheetE]))
end Go.VS
/-
  A contradiction is a closed walk. (A text of this claim's own; nothing of it is trusted.)
-/
namespace Go.VS
open Go Go.VS.Walks
theorem clash_some {es : List Edge} {c : Chn} : ∀ {j i : Nat}, clashFrom es j i = some c → ∃ k, i ≤ k ∧ k < i + j ∧ (zN es k 5)[k]? = some (some c) ∧ ltR c.q one1 = true
  | 0, _, h => by cases h
  | j + 1, i, h => by
    unfold clashFrom at h
    split at h
    · rename_i c' hc'
      split at h
      · rename_i hl
        cases h
        exact ⟨i, Nat.le_refl _, by omega, hc', hl⟩
      · obtain ⟨k, k1, k2, k3⟩ := clash_some h
        exact ⟨k, by omega, by omega, k3⟩
    · obtain ⟨k, k1, k2, k3⟩ := clash_some h
      exact ⟨k, by omega, by omega, k3⟩
end Go.VS
/-
  What Factor and Between answer, in the words of least quotients. (A text of this claim's own; nothing of it is trusted.)
-/
namespace Go.VS
open Go Go.VS.Walks
theorem t19x (p : Paper) (a b ax : Int) (hwf : p.wf) : ∃ (r : Ratio) (k : Int), (lim cfg).pure 19 [zh p, I a, I b, I ax] = some (.tup [.agg [I r.n, I r.d], I k]) ∧ (k = 0 ↔ zu p ax [a, b] = 0) ∧ (zu p ax [a, b] = 0 → r = betwF p a b ax) := by
  have h := t19 p a b ax hwf
  by_cases hk : zu p ax [a, b] = 0
  · rw [if_pos hk] at h
    exact ⟨betwF p a b ax, 0, h, by simp [hk], fun _ => rfl⟩
  · rw [if_neg hk] at h
    exact ⟨⟨0, 0⟩, _, h, Iff.rfl, fun h' => absurd h' hk⟩
theorem t20x (p : Paper) (s ax : Int) (hwf : p.wf) : ∃ (lo hi : Ratio) (k : Int), (lim cfg).pure 20 [zh p, I s, I ax] = some (.tup [.agg [I lo.n, I lo.d], .agg [I hi.n, I hi.d], I k]) ∧ (k = 0 ↔ zu p ax [s] = 0) ∧ (zu p ax [s] = 0 → lo = loF p s ax ∧ hi = hiF p s ax) := by
  have h := t20 p s ax hwf
  by_cases hk : zu p ax [s] = 0
  · rw [if_pos hk] at h
    exact ⟨loF p s ax, hiF p s ax, 0, h, by simp [hk], fun _ => ⟨rfl, rfl⟩⟩
  · rw [if_neg hk] at h
    exact ⟨⟨0, 0⟩, ⟨0, 0⟩, _, h, Iff.rfl, fun h' => absurd h' hk⟩
theorem poss_none {p : Paper} (h : possibleF p = true) {ax : Int} (hax : isAxis ax = true) : clashA p ax = none := by
  simp [possibleF] at h
  simp [isAxis] at hax
  rcases hax with rfl | rfl
  · exact h.1
  · exact h.2
theorem sheet_nat {p : Paper} {s : Int} (h : zA p s = true) : ∃ i : Nat, s = i ∧ (1 + i : Nat) < 1 + p.sheets ∧ (1 + s).toNat = 1 + i := by
  simp [zA] at h
  exact ⟨s.toNat, by omega, by omega, by omega⟩
theorem betw_dist (p : Paper) (ax : Int) (i j : Nat) : betwF p i j ax = distF p ax (1 + i) (1 + j) := by
  unfold betwF distF
  rw [show (1 + (i : Int)).toNat = 1 + i by omega, show (1 + (j : Int)).toNat = 1 + j by omega]
  by_cases h : i = j
  · subst h; simp
  · rw [if_neg (by omega), if_neg (by omega)]
theorem hi_dist (p : Paper) (ax : Int) (i : Nat) : hiF p i ax = distF p ax (1 + i) 0 := by
  unfold hiF downF downO distF
  rw [show (1 + (i : Int)).toNat = 1 + i by omega, if_neg (by omega)]
theorem dist_tri {p : Paper} (hok : zt p = true) {ax : Int} (hc : clashA p ax = none) {a b c : Nat} (ha : a < 1 + p.sheets) (hb : b < 1 + p.sheets) (hcc : c < 1 + p.sheets) : vR (distF p ax a c) ≤ vR (distF p ax a b) * vR (distF p ax b c) := by
  obtain ⟨_, w, w1, _, w2⟩ := dist_real hok ax ha hb
  obtain ⟨_, v, v1, _, v2⟩ := dist_real hok ax hb hcc
  rw [w2, v2, ← prE_append]
  exact dist_least hok hc ha hcc (wk_append w1 v1)
end Go.VS
/-
  The least factor in the words of least quotients. (A text of this claim's own; nothing of it is trusted.)
-/
namespace Go.VS
open Go Go.VS.Walks
theorem lo_dist2 (p : Paper) (ax : Int) (i : Nat) : loF p i ax = ⟨(distF p ax 0 (1 + i)).d, (distF p ax 0 (1 + i)).n⟩ := by
  unfold loF upF upO distF
  rw [show (1 + (i : Int)).toNat = 1 + i by omega, if_neg (by omega)]
end Go.VS
/-
  A paper with less said: what remains. (A text of this claim's own; nothing of it is trusted.)
-/
namespace Go.VS
open Go Go.VS.Walks
def SubP (q p : Paper) : Prop := q.sheets = p.sheets ∧ (∀ m ∈ q.marks, m ∈ p.marks) ∧ (∀ m ∈ q.joins, m ∈ p.joins) ∧ q.marks.length ≤ p.marks.length ∧ q.joins.length ≤ p.joins.length
theorem sub_ok {q p : Paper} (h : SubP q p) (hok : zt p = true) : zt q = true := by
  obtain ⟨o1, o2, o3, o4, o5, o6⟩ := zJ hok
  obtain ⟨h1, h2, h3, h4, h5⟩ := h
  simp only [zt, Bool.and_eq_true, decide_eq_true_eq, List.all_eq_true]
  refine ⟨⟨⟨⟨⟨by omega, by omega⟩, by omega⟩, by omega⟩, fun m hm => ?_⟩, fun m hm => ?_⟩
  · have := o5 m (h2 m hm)
    unfold markOK zA at this ⊢
    rw [h1]; exact this
  · have := o6 m (h3 m hm)
    unfold joinOK zA at this ⊢
    rw [h1]; exact this
theorem sub_edges {q p : Paper} (h : SubP q p) {ax : Int} (t : T) : inE (zI q ax) t → inE (zI p ax) t := by
  obtain ⟨h1, h2, h3, -, -⟩ := h
  rw [inE_edges, inE_edges, h1]
  rintro (h | ⟨m, m1, m2, m3⟩ | ⟨m, m1, m2, m3⟩)
  · exact .inl h
  · exact .inr (.inl ⟨m, h2 m m1, m2, m3⟩)
  · exact .inr (.inr ⟨m, h3 m m1, m2, m3⟩)
theorem clash_sub {q p : Paper} (h : SubP q p) {ax : Int} (hok : zt p = true) (hc : clashA p ax = none) : clashA q ax = none := by
  obtain ⟨o1, o2, -⟩ := zJ hok
  refine clash_of fun k h1 h2 c' hc' => ?_
  have hs := h.1
  obtain ⟨r1, c, c1, r2, l1⟩ := chains_le (sub_edges h) (fun e he => (edge_nodes (sub_ok h hok) he).1) (fun e he => (edge_nodes hok he).1) (show k < 5 by omega) hc'
  have hn := clash_none hc k h1 (by rw [← hs]; exact h2) c c1
  cases hlt : ltR c'.q one1 with
  | false => rfl
  | true =>
    rw [ltR_iff r1.2.1 (by decide), one_vR] at hlt
    have : ltR c.q one1 = true := by
      rw [ltR_iff r2.2.1 (by decide), one_vR]
      exact Std.lt_of_le_of_lt l1 hlt
    rw [this] at hn; cases hn
theorem poss_sub {q p : Paper} (h : SubP q p) (hok : zt p = true) (hp : possibleF p = true) : possibleF q = true := by
  simp only [possibleF, Bool.and_eq_true, Option.isNone_iff_eq_none] at hp ⊢
  exact ⟨clash_sub h hok hp.1, clash_sub h hok hp.2⟩
theorem without_sub (p : Paper) (r : Reason) : SubP (zP p r) p := by
  unfold zP
  split
  · exact ⟨rfl, fun _ h => h, fun _ h => List.mem_of_mem_eraseIdx h, Nat.le_refl _, List.length_eraseIdx_le _ _⟩
  · exact ⟨rfl, fun _ h => List.mem_of_mem_eraseIdx h, fun _ h => h, List.length_eraseIdx_le _ _, Nat.le_refl _⟩
theorem without_wf {p : Paper} (r : Reason) (hwf : p.wf) : (zP p r).wf := by
  obtain ⟨h1, h2, h3, h4⟩ := hwf
  obtain ⟨s1, s2, s3, s4, s5⟩ := without_sub p r
  refine ⟨?_, ?_, by omega, by omega⟩
  · unfold zP
    split
    · exact h1
    · intro h; simp only [] at h ⊢; rw [h1 h]; rfl
  · unfold zP
    split
    · intro h; simp only [] at h ⊢; rw [h2 h]; rfl
    · exact h2
theorem lo_flags {sh : Int} {ms : List Mark} {js : List Join} {a b c d : Bool} {s ax : Int} : loF ⟨sh, a, ms, b, js⟩ s ax = loF ⟨sh, c, ms, d, js⟩ s ax ∧ hiF ⟨sh, a, ms, b, js⟩ s ax = hiF ⟨sh, c, ms, d, js⟩ s ax := ⟨rfl, rfl⟩
theorem reas_mem {p : Paper} {r : Reason} (h : r ∈ reasF p) : (reasF p).any (eqW r) = true := by
  rw [List.any_eq_true]
  exact ⟨r, h, by simp [eqW]⟩
theorem idxs_get {b : Bool} : ∀ {m i k : Nat}, k < m → (idxs b i m)[k]? = some ⟨b, ((i + k : Nat) : Int), false⟩
  | 0, _, _, h => by omega
  | m + 1, i, 0, _ => by simp [idxs]
  | m + 1, i, k + 1, h => by
    rw [idxs, List.getElem?_cons_succ, idxs_get (by omega)]
    congr 3
    omega
theorem reas_get {p : Paper} {k : Nat} (h : k < p.marks.length + p.joins.length) : (reasF p)[k]? = some (if k < p.marks.length then ⟨false, (k : Int), false⟩ else ⟨true, ((k : Int) - p.marks.length), false⟩) := by
  unfold reasF
  by_cases h1 : k < p.marks.length
  · rw [if_pos h1, List.getElem?_append_left (by rw [idxs_len]; exact h1), idxs_get h1, Nat.zero_add]
  · rw [if_neg h1, List.getElem?_append_right (by rw [idxs_len]; omega), idxs_len, idxs_get (by omega)]
    congr 2
    omega
theorem reas_len (p : Paper) : (reasF p).length = p.marks.length + p.joins.length := by simp [reasF, idxs_len]
end Go.VS
namespace Go.VS
open Go Go.Proofs
set_option maxHeartbeats 0
set_option linter.unusedSimpArgs false

noncomputable def lp54_7 : Code := zB [1, 1, 1, 1, 0, 1, 0, 0] (zo Tryd.f54)
theorem lk54_7 : cfg.keep 54 (zD lp54_7) = [1, 2, 3, 9, 10, 26, 27, 28] := by kernel_rfl

def bdF (p : Paper) (s ax : Int) : Ratio × Ratio := (loF p s ax, hiF p s ax)
def chg (a b : Ratio × Ratio) : Bool := !(((b.1.n == a.1.n) && (b.1.d == a.1.d)) && ((b.2.n == a.2.n) && (b.2.d == a.2.d)))
theorem L54_7 {F : Exit → St → Option D} (p : Paper) (s ax : Int) (l qh : Ratio) (rs : List Reason) (k : List Kt) (x : D) (hl0 : rs.length ≤ 1000) (hcall : ∀ r ∈ rs, (lim cfg).pure 103 [zh p, .agg [B r.join, I r.at_, B r.back]] = some (zh (zP p r)) ∧ (lim cfg).pure 73 [zh (zP p r), I s, I ax] = some (.agg [I (loF (zP p r) s ax).n, I (loF (zP p r) s ax).d, I (hiF (zP p r) s ax).n, I (hiF (zP p r) s ax).d])) : ∀ (rest : List Reason) (i : Nat) (acc : List Reason), rs.drop i = rest → i ≤ rs.length → acc.length + rest.length ≤ 1000 →
    (zO cfg (lim cfg) 54 F k (.exit 0) ⟨46, [(29, B false), (1, I s), (2, I ax), (3, .lref 0 0 3 0), (9, .lref 1 0 4 0), (10, gD 2 3 (acc ++ rest.filter (fun r => chg (l, qh) (bdF (zP p r) s ax)))), (26, .sl false (rs.map encW) 3 none), (27, I rs.length), (28, I (rs.length : Nat))], (0, ⟨[zh p], 3, false⟩) :: (1, ⟨[.agg [I l.n, I l.d, I qh.n, I qh.d]], 4, false⟩) :: gO 2 3 encW (acc ++ rest.filter (fun r => chg (l, qh) (bdF (zP p r) s ax))), gN 2 (acc ++ rest.filter (fun r => chg (l, qh) (bdF (zP p r) s ax))), 0⟩ = some x) →
    EvL cfg (lim cfg) 54 F lp54_7 k ⟨46, [(1, I s), (2, I ax), (3, .lref 0 0 3 0), (9, .lref 1 0 4 0), (10, gD 2 3 (acc)), (26, .sl false (rs.map encW) 3 none), (27, I rs.length), (28, I (i : Nat))], (0, ⟨[zh p], 3, false⟩) :: (1, ⟨[.agg [I l.n, I l.d, I qh.n, I qh.d]], 4, false⟩) :: gO 2 3 encW (acc), gN 2 (acc), 0⟩ = some x := by
  intro rest
  induction rest with
  | nil =>
    intro i acc hd hi he h
    have hi' : i = rs.length := by
      have := List.drop_eq_nil_iff.1 hd
      omega
    subst hi'
    rw [List.filter_nil, List.append_nil] at h
    refine zv ?_
    try dsimp only [lp54_7, zB, zo, Tryd.f54]
    simp only [bW, if_true, Nat.reduceEqDiff, if_false]
    repeat' first | (intro hb; first | cases hb | skip) | ((first | apply z6 | apply zc); (· rfl); (· simp (disch := assumption) only [go_sem, Nat.reduceEqDiff, Nat.reduceAdd, bP, zd, Nat.reduceLeDiff, Nat.reduceLT, Nat.reduceMul, List.length_append, decide_eq_true_eq, z7, z0, Int.reduceToNat, Int.reduceLE, Int.reduceLT, Int.reduceBNe, Int.reduceBEq, Int.lt_irrefl]; rfl); (· simp only [go_sem, Nat.reduceLT, Nat.reduceEqDiff]; rfl); (· rfl); first | (apply zb; (· simp only [go_sem, Nat.reduceLT]; rfl); (· simp only [go_sem, Nat.reduceLT]; rfl)) | (apply zf; (· simp only [go_sem, Nat.reduceLT]; rfl))) | ((first | apply z9 | apply za); (· rfl); (· simp only [go_sem, Nat.reduceLT]; rfl)) | (apply z8; (· simp only [go_sem, Nat.reduceEqDiff])) | (apply z5; (· simp only [go_sem, Nat.reduceEqDiff])) | (apply ze; (· kernel_rfl); (· kernel_rfl)) | (simp only [bW, if_true, Nat.reduceEqDiff, if_false])
    exact h
  | cons r rest ih =>
    intro i acc hd hi he h
    have hlt : i < rs.length := by
      rcases Nat.lt_or_ge i rs.length with h | h
      · exact h
      · rw [List.drop_eq_nil_of_le h] at hd; cases hd
    have hm : rs[i]? = some r := by rw [← List.head?_drop, hd]; rfl
    have hx : (rs.map encW)[i]? = some (.agg [B r.join, I r.at_, B r.back]) := by rw [List.getElem?_map, hm]; rfl
    have hlt' : (i : Int) < (rs.length : Int) := by omega
    have hw3 : IntKind.i64.wrap ((i : Int) + 1) = ((i + 1 : Nat) : Int) := by rw [wrap_i64 (by omega) (by omega)]; omega
    obtain ⟨k103, k73⟩ := hcall r (List.mem_of_getElem? hm)
    cases acc with
    | nil =>
      rw [List.nil_append] at h
      simp only [gD, gO, gN]
      refine zv ?_
      try dsimp only [lp54_7, zB, zo, Tryd.f54]
      simp only [bW, if_true, Nat.reduceEqDiff, if_false]
      repeat' first | (intro hb; first | cases hb | skip) | ((first | apply z6 | apply zc); (· rfl); (· simp (disch := assumption) only [go_sem, Nat.reduceEqDiff, Nat.reduceAdd, bP, zd, Nat.reduceLeDiff, Nat.reduceLT, Nat.reduceMul, List.length_append, decide_eq_true_eq, z7, z0, Int.reduceToNat, Int.reduceLE, Int.reduceLT, Int.reduceBNe, Int.reduceBEq, List.length_map, hx, hlt', hw3, k103, k73, okW.allOk, Nat.zero_lt_succ]; rfl); (· simp only [go_sem, Nat.reduceLT, Nat.reduceEqDiff]; rfl); (· rfl); first | (apply zb; (· simp only [go_sem, Nat.reduceLT]; rfl); (· simp only [go_sem, Nat.reduceLT]; rfl)) | (apply zf; (· simp only [go_sem, Nat.reduceLT]; rfl))) | ((first | apply z9 | apply za); (· rfl); (· simp only [go_sem, Nat.reduceLT]; rfl)) | (apply z8; (· simp only [go_sem, Nat.reduceEqDiff])) | (apply z5; (· simp only [go_sem, Nat.reduceEqDiff])) | (apply ze; (· kernel_rfl); (· kernel_rfl)) | (simp only [bW, if_true, Nat.reduceEqDiff, if_false])
      · have hch : chg (l, qh) (bdF (zP p r) s ax) = true := by simpa [chg, bdF, Bool.and_true] using hb
        clear hb
        refine zM (st1 := ⟨46, [(1, I s), (2, I ax), (3, .lref 0 0 3 0), (9, .lref 1 0 4 0), (10, gD 2 3 (([]) ++ [r])), (26, .sl false (rs.map encW) 3 none), (27, I rs.length), (28, I (i + 1 : Nat))], (0, ⟨[zh p], 3, false⟩) :: (1, ⟨[.agg [I l.n, I l.d, I qh.n, I qh.d]], 4, false⟩) :: gO 2 3 encW (([]) ++ [r]), gN 2 (([]) ++ [r]), 0⟩) lk54_7 (by
          simp only [go_sem, List.map_append, Nat.reduceEqDiff, Nat.reduceLT, Nat.reduceAdd, bI, bD, bI2, okW.renL, okW.idsL, okW.idsL_app, okW.ids, okW.ren, gD, gO, gN, zh, encW, List.length_append]
          try rfl) (ih (i + 1) (([]) ++ [r]) (by rw [← List.drop_drop, hd]; rfl) hlt (by simp at he ⊢; omega) (by rw [List.filter_cons, hch] at h; simpa using h))
      · have hch : chg (l, qh) (bdF (zP p r) s ax) = false := by simpa [chg, bdF, Bool.and_true] using hb
        clear hb
        refine zM (st1 := ⟨46, [(1, I s), (2, I ax), (3, .lref 0 0 3 0), (9, .lref 1 0 4 0), (10, gD 2 3 ([])), (26, .sl false (rs.map encW) 3 none), (27, I rs.length), (28, I (i + 1 : Nat))], (0, ⟨[zh p], 3, false⟩) :: (1, ⟨[.agg [I l.n, I l.d, I qh.n, I qh.d]], 4, false⟩) :: gO 2 3 encW ([]), gN 2 ([]), 0⟩) lk54_7 (by
          simp only [go_sem, List.map_append, Nat.reduceEqDiff, Nat.reduceLT, Nat.reduceAdd, bI, bD, bI2, okW.renL, okW.idsL, okW.idsL_app, okW.ids, okW.ren, gD, gO, gN, zh, encW, List.length_append]
          try rfl) (ih (i + 1) ([]) (by rw [← List.drop_drop, hd]; rfl) hlt (by simp at he ⊢; omega) (by rw [List.filter_cons, hch] at h; simpa using h))
    | cons e ar =>
      simp only [List.length_cons] at he
      have hle : (ar.length + 1 + 1 ≤ ar.length + 1) = False := by simp
      have hb1 : ((ar.length + 1 + 1) * 24 ≤ big) = True := by simp [big]; omega
      have hb2 : (ar.length + 1 + 1 ≤ big) = True := by simp [big]; omega
      have hao : allOk 3 (encW e :: List.map encW ar) = true := okW.allOk (e :: ar)
      simp only [gD, gO, gN, List.map_cons]
      refine zv ?_
      try dsimp only [lp54_7, zB, zo, Tryd.f54]
      simp only [bW, if_true, Nat.reduceEqDiff, if_false]
      repeat' first | (intro hb; first | cases hb | skip) | ((first | apply z6 | apply zc); (· rfl); (· simp (disch := assumption) only [go_sem, Nat.reduceEqDiff, Nat.reduceAdd, bP, zd, Nat.reduceLeDiff, Nat.reduceLT, Nat.reduceMul, List.length_append, decide_eq_true_eq, z7, z0, Int.reduceToNat, Int.reduceLE, Int.reduceLT, Int.reduceBNe, Int.reduceBEq, List.length_map, hx, hlt', hw3, k103, k73, okW.allOk, Nat.zero_lt_succ, hle, hb1, hb2, hao]; rfl); (· simp only [go_sem, Nat.reduceLT, Nat.reduceEqDiff]; rfl); (· rfl); first | (apply zb; (· simp only [go_sem, Nat.reduceLT]; rfl); (· simp only [go_sem, Nat.reduceLT]; rfl)) | (apply zf; (· simp only [go_sem, Nat.reduceLT]; rfl))) | ((first | apply z9 | apply za); (· rfl); (· simp only [go_sem, Nat.reduceLT]; rfl)) | (apply z8; (· simp only [go_sem, Nat.reduceEqDiff])) | (apply z5; (· simp only [go_sem, Nat.reduceEqDiff])) | (apply ze; (· kernel_rfl); (· kernel_rfl)) | (simp only [bW, if_true, Nat.reduceEqDiff, if_false])
      · have hch : chg (l, qh) (bdF (zP p r) s ax) = true := by simpa [chg, bdF, Bool.and_true] using hb
        clear hb
        refine zM (st1 := ⟨46, [(1, I s), (2, I ax), (3, .lref 0 0 3 0), (9, .lref 1 0 4 0), (10, gD 2 3 ((e :: ar) ++ [r])), (26, .sl false (rs.map encW) 3 none), (27, I rs.length), (28, I (i + 1 : Nat))], (0, ⟨[zh p], 3, false⟩) :: (1, ⟨[.agg [I l.n, I l.d, I qh.n, I qh.d]], 4, false⟩) :: gO 2 3 encW ((e :: ar) ++ [r]), gN 2 ((e :: ar) ++ [r]), 0⟩) lk54_7 (by
          simp only [go_sem, List.map_append, Nat.reduceEqDiff, Nat.reduceLT, Nat.reduceAdd, bI, bD, bI2, okW.renL, okW.idsL, okW.idsL_app, okW.ids, okW.ren, gD, gO, gN, zh, encW, List.length_append]
          try rfl) (ih (i + 1) ((e :: ar) ++ [r]) (by rw [← List.drop_drop, hd]; rfl) hlt (by simp at he ⊢; omega) (by rw [List.filter_cons, hch] at h; simpa using h))
      · have hch : chg (l, qh) (bdF (zP p r) s ax) = false := by simpa [chg, bdF, Bool.and_true] using hb
        clear hb
        refine zM (st1 := ⟨46, [(1, I s), (2, I ax), (3, .lref 0 0 3 0), (9, .lref 1 0 4 0), (10, gD 2 3 (e :: ar)), (26, .sl false (rs.map encW) 3 none), (27, I rs.length), (28, I (i + 1 : Nat))], (0, ⟨[zh p], 3, false⟩) :: (1, ⟨[.agg [I l.n, I l.d, I qh.n, I qh.d]], 4, false⟩) :: gO 2 3 encW (e :: ar), gN 2 (e :: ar), 0⟩) lk54_7 (by
          simp only [go_sem, List.map_append, Nat.reduceEqDiff, Nat.reduceLT, Nat.reduceAdd, bI, bD, bI2, okW.renL, okW.idsL, okW.idsL_app, okW.ids, okW.ren, gD, gO, gN, zh, encW, List.length_append]
          try rfl) (ih (i + 1) (e :: ar) (by rw [← List.drop_drop, hd]; rfl) hlt (by simp at he ⊢; omega) (by rw [List.filter_cons, hch] at h; simpa using h))

end Go.VS
namespace Go.VS
open Go Go.Proofs
set_option maxHeartbeats 0
set_option linter.unusedSimpArgs false

def restsP (p : Paper) (s ax : Int) : List Reason := if zu p ax [s] = 0 then (reasF p).filter (fun r => chg (bdF p s ax) (bdF (zP p r) s ax)) else []
theorem t54 (p : Paper) (s ax : Int) (hwf : p.wf) : (lim cfg).pure 54 [zh p, I s, I ax] = some (.tup [gS 3 encW (restsP p s ax), I (zu p ax [s])]) := by
  have h71 := t71 p ax false [s] hwf 1 (fun _ => rfl) (fun h => by cases h) (by simp)
  simp only [List.map_cons, List.map_nil] at h71
  by_cases hk : zu p ax [s] = 0
  case neg =>
    unfold restsP
    rw [if_neg hk]
    have n1 : (zu p ax [s] != 0) = true := by simp [hk]
    simp only [gS]
    refine zp (zk 54) cfn54 rfl (n := 46) rfl ?_
    simp only [bW, if_true, Nat.reduceEqDiff, if_false, zi]
    repeat' first | (intro hb; first | cases hb | skip) | ((first | apply z6 | apply zc); (· rfl); (· simp (disch := assumption) only [go_sem, Nat.reduceEqDiff, Nat.reduceAdd, bP, zd, Nat.reduceLeDiff, Nat.reduceLT, Nat.reduceMul, List.length_append, decide_eq_true_eq, z7, z0, Int.reduceToNat, Int.reduceLE, Int.reduceLT, Int.reduceBNe, Int.reduceBEq, h71, n1]; rfl); (· simp only [go_sem, Nat.reduceLT, Nat.reduceEqDiff]; rfl); (· rfl); first | (apply zb; (· simp only [go_sem, Nat.reduceLT]; rfl); (· simp only [go_sem, Nat.reduceLT]; rfl)) | (apply zf; (· simp only [go_sem, Nat.reduceLT]; rfl))) | ((first | apply z9 | apply za); (· rfl); (· simp only [go_sem, Nat.reduceLT]; rfl)) | (apply z8; (· simp only [go_sem, Nat.reduceEqDiff])) | (apply z5; (· simp only [go_sem, Nat.reduceEqDiff])) | (apply ze; (· kernel_rfl); (· kernel_rfl)) | (simp only [bW, if_true, Nat.reduceEqDiff, if_false])
    all_goals try simp only [go_sem, Nat.reduceEqDiff, bP, Nat.reduceAdd, Nat.reduceLeDiff, List.length_map, Tryd.f54]
    all_goals first | done | rfl | (simp_all []; done) | trace_state
  obtain ⟨s1, s2, s3, s4⟩ := known_zero.1 hk
  simp only [List.all_cons, List.all_nil, Bool.and_true] at s3
  rw [hk] at h71
  obtain ⟨o1, o2, o5, o6, -, -⟩ := zJ s1
  have h73 := t73 p s ax hwf s1 s3
  have h102 := t102 p hwf (by omega) (by omega)
  have hrl := reas_len p
  have hcall : ∀ r ∈ reasF p, (lim cfg).pure 103 [zh p, .agg [B r.join, I r.at_, B r.back]] = some (zh (zP p r)) ∧ (lim cfg).pure 73 [zh (zP p r), I s, I ax] = some (.agg [I (loF (zP p r) s ax).n, I (loF (zP p r) s ax).d, I (hiF (zP p r) s ax).n, I (hiF (zP p r) s ax).d]) := by
    intro r hr
    have hsub := without_sub p r
    refine ⟨t103 p r hwf (by omega) (by omega) (reas_mem hr), t73 _ s ax (without_wf r hwf) (sub_ok hsub s1) ?_⟩
    unfold zA at s3 ⊢
    rw [hsub.1]
    exact s3
  have hres : restsP p s ax = (reasF p).filter (fun r => chg (loF p s ax, hiF p s ax) (bdF (zP p r) s ax)) := by
    unfold restsP bdF
    rw [if_pos hk]
  rw [hres, hk]
  clear hres hk
  have hlen : (reasF p).length ≤ 1000 := by omega
  clear hrl
  generalize reasF p = rs at *
  generalize loF p s ax = l at *
  generalize hiF p s ax = qh at *
  cases rs with
  | nil =>
    rw [List.filter_nil]
    simp only [gS] at h102 ⊢
    refine zp (zk 54) cfn54 rfl (n := 46) rfl ?_
    generalize hF : finP cfg Tryd.f54 = F
    simp only [bW, if_true, Nat.reduceEqDiff, if_false, zi]
    repeat' first | (intro hb; first | cases hb | skip) | ((first | apply z6 | apply zc); (· rfl); (· simp (disch := assumption) only [go_sem, Nat.reduceEqDiff, Nat.reduceAdd, bP, zd, Nat.reduceLeDiff, Nat.reduceLT, Nat.reduceMul, List.length_append, decide_eq_true_eq, z7, z0, Int.reduceToNat, Int.reduceLE, Int.reduceLT, Int.reduceBNe, Int.reduceBEq, h71, h102, h73, bne_self_eq_false]; rfl); (· simp only [go_sem, Nat.reduceLT, Nat.reduceEqDiff]; rfl); (· rfl); first | (apply zb; (· simp only [go_sem, Nat.reduceLT]; rfl); (· simp only [go_sem, Nat.reduceLT]; rfl)) | (apply zf; (· simp only [go_sem, Nat.reduceLT]; rfl))) | ((first | apply z9 | apply za); (· rfl); (· simp only [go_sem, Nat.reduceLT]; rfl)) | (apply z8; (· simp only [go_sem, Nat.reduceEqDiff])) | (apply z5; (· simp only [go_sem, Nat.reduceEqDiff])) | (apply ze; (· kernel_rfl); (· kernel_rfl)) | (simp only [bW, if_true, Nat.reduceEqDiff, if_false])
    apply w_loop lk54_7
    · simp only [go_sem, List.map_append, Nat.reduceEqDiff, Nat.reduceLT, Nat.reduceAdd, bI, bD, bI2, zh]
      rfl
    refine zv ?_
    try dsimp only [lp54_7, zB, zo, Tryd.f54]
    simp only [bW, if_true, Nat.reduceEqDiff, if_false]
    repeat' first | (intro hb; first | cases hb | skip) | ((first | apply z6 | apply zc); (· rfl); (· simp (disch := assumption) only [go_sem, Nat.reduceEqDiff, Nat.reduceAdd, bP, zd, Nat.reduceLeDiff, Nat.reduceLT, Nat.reduceMul, List.length_append, decide_eq_true_eq, z7, z0, Int.reduceToNat, Int.reduceLE, Int.reduceLT, Int.reduceBNe, Int.reduceBEq, Int.lt_irrefl]; rfl); (· simp only [go_sem, Nat.reduceLT, Nat.reduceEqDiff]; rfl); (· rfl); first | (apply zb; (· simp only [go_sem, Nat.reduceLT]; rfl); (· simp only [go_sem, Nat.reduceLT]; rfl)) | (apply zf; (· simp only [go_sem, Nat.reduceLT]; rfl))) | ((first | apply z9 | apply za); (· rfl); (· simp only [go_sem, Nat.reduceLT]; rfl)) | (apply z8; (· simp only [go_sem, Nat.reduceEqDiff])) | (apply z5; (· simp only [go_sem, Nat.reduceEqDiff])) | (apply ze; (· kernel_rfl); (· kernel_rfl)) | (simp only [bW, if_true, Nat.reduceEqDiff, if_false])
    subst hF
    all_goals simp only [go_sem, Nat.reduceEqDiff, bP, Nat.reduceAdd, Nat.reduceLeDiff, List.length_map, Tryd.f54]
  | cons w0 l0 =>
    have hg : gS 3 encW (w0 :: l0) = .sl false ((w0 :: l0).map encW) 3 none := rfl
    rw [hg] at h102
    clear hg
    generalize w0 :: l0 = rs at *
    refine zp (zk 54) cfn54 rfl (n := 46) rfl ?_
    generalize hF : finP cfg Tryd.f54 = F
    simp only [bW, if_true, Nat.reduceEqDiff, if_false, zi]
    repeat' first | (intro hb; first | cases hb | skip) | ((first | apply z6 | apply zc); (· rfl); (· simp (disch := assumption) only [go_sem, Nat.reduceEqDiff, Nat.reduceAdd, bP, zd, Nat.reduceLeDiff, Nat.reduceLT, Nat.reduceMul, List.length_append, decide_eq_true_eq, z7, z0, Int.reduceToNat, Int.reduceLE, Int.reduceLT, Int.reduceBNe, Int.reduceBEq, h71, h102, h73, bne_self_eq_false, List.length_map]; rfl); (· simp only [go_sem, Nat.reduceLT, Nat.reduceEqDiff]; rfl); (· rfl); first | (apply zb; (· simp only [go_sem, Nat.reduceLT]; rfl); (· simp only [go_sem, Nat.reduceLT]; rfl)) | (apply zf; (· simp only [go_sem, Nat.reduceLT]; rfl))) | ((first | apply z9 | apply za); (· rfl); (· simp only [go_sem, Nat.reduceLT]; rfl)) | (apply z8; (· simp only [go_sem, Nat.reduceEqDiff])) | (apply z5; (· simp only [go_sem, Nat.reduceEqDiff])) | (apply ze; (· kernel_rfl); (· kernel_rfl)) | (simp only [bW, if_true, Nat.reduceEqDiff, if_false])
    refine w_loop (st1 := ⟨46, [(1, I s), (2, I ax), (3, .lref 0 0 3 0), (9, .lref 1 0 4 0), (10, gD 2 3 (([] : List Reason))), (26, .sl false (rs.map encW) 3 none), (27, I rs.length), (28, I (0 : Nat))], (0, ⟨[zh p], 3, false⟩) :: (1, ⟨[.agg [I l.n, I l.d, I qh.n, I qh.d]], 4, false⟩) :: gO 2 3 encW (([] : List Reason)), gN 2 (([] : List Reason)), 0⟩) lk54_7 (by
      simp only [go_sem, List.map_append, Nat.reduceEqDiff, Nat.reduceLT, Nat.reduceAdd, bI, bD, bI2, zh, gD, gO, gN]
      try rfl) (L54_7 p s ax l qh rs _ _ hlen hcall rs 0 [] rfl (Nat.zero_le _) (by simp; omega) ?_)
    rw [List.nil_append]
    generalize rs.filter (fun r => chg (l, qh) (bdF (zP p r) s ax)) = R
    cases R with
    | nil =>
      simp only [gD, gO, gN, gS]
      simp only [bW, if_true, Nat.reduceEqDiff, if_false]
      repeat' first | (intro hb; first | cases hb | skip) | ((first | apply z6 | apply zc); (· rfl); (· simp (disch := assumption) only [go_sem, Nat.reduceEqDiff, Nat.reduceAdd, bP, zd, Nat.reduceLeDiff, Nat.reduceLT, Nat.reduceMul, List.length_append, decide_eq_true_eq, z7, z0, Int.reduceToNat, Int.reduceLE, Int.reduceLT, Int.reduceBNe, Int.reduceBEq]; rfl); (· simp only [go_sem, Nat.reduceLT, Nat.reduceEqDiff]; rfl); (· rfl); first | (apply zb; (· simp only [go_sem, Nat.reduceLT]; rfl); (· simp only [go_sem, Nat.reduceLT]; rfl)) | (apply zf; (· simp only [go_sem, Nat.reduceLT]; rfl))) | ((first | apply z9 | apply za); (· rfl); (· simp only [go_sem, Nat.reduceLT]; rfl)) | (apply z8; (· simp only [go_sem, Nat.reduceEqDiff])) | (apply z5; (· simp only [go_sem, Nat.reduceEqDiff])) | (apply ze; (· kernel_rfl); (· kernel_rfl)) | (simp only [bW, if_true, Nat.reduceEqDiff, if_false])
      subst hF
      all_goals simp only [go_sem, Nat.reduceEqDiff, bP, Nat.reduceAdd, Nat.reduceLeDiff, List.length_map, Tryd.f54]
    | cons w r =>
      simp only [gD, gO, gN, gS]
      simp only [bW, if_true, Nat.reduceEqDiff, if_false]
      repeat' first | (intro hb; first | cases hb | skip) | ((first | apply z6 | apply zc); (· rfl); (· simp (disch := assumption) only [go_sem, Nat.reduceEqDiff, Nat.reduceAdd, bP, zd, Nat.reduceLeDiff, Nat.reduceLT, Nat.reduceMul, List.length_append, decide_eq_true_eq, z7, z0, Int.reduceToNat, Int.reduceLE, Int.reduceLT, Int.reduceBNe, Int.reduceBEq]; rfl); (· simp only [go_sem, Nat.reduceLT, Nat.reduceEqDiff]; rfl); (· rfl); first | (apply zb; (· simp only [go_sem, Nat.reduceLT]; rfl); (· simp only [go_sem, Nat.reduceLT]; rfl)) | (apply zf; (· simp only [go_sem, Nat.reduceLT]; rfl))) | ((first | apply z9 | apply za); (· rfl); (· simp only [go_sem, Nat.reduceLT]; rfl)) | (apply z8; (· simp only [go_sem, Nat.reduceEqDiff])) | (apply z5; (· simp only [go_sem, Nat.reduceEqDiff])) | (apply ze; (· kernel_rfl); (· kernel_rfl)) | (simp only [bW, if_true, Nat.reduceEqDiff, if_false])
      subst hF
      all_goals simp only [go_sem, Nat.reduceEqDiff, bP, Nat.reduceAdd, Nat.reduceLeDiff, List.length_map, Tryd.f54, okW.snap, okW.snapAll, z7]
end Go.VS
/-
  How large least quotients are; what a zi times a ratio comes to, rounded. (A text of this claim's own; nothing of it is trusted.)
-/
namespace Go.VS
open Go Go.VS.Walks
def prI (f : Edge → Int) : List Edge → Int
  | [] => 1
  | e :: w => f e * prI f w
theorem prE_frac (w : List Edge) : prE w = vq (prI (fun e => e.q.n) w) (prI (fun e => e.q.d) w) := by
  induction w with
  | nil => exact vq_one.symm
  | cons e w ih =>
    show vR e.q * prE w = _
    rw [ih]
    unfold vR
    rw [vq_mul]
    rfl
theorem prI_le {f : Edge → Int} {B : Int} (hB : 1 ≤ B) : ∀ {w : List Edge}, (∀ e ∈ w, 1 ≤ f e ∧ f e ≤ B) → 1 ≤ prI f w ∧ prI f w ≤ B ^ w.length
  | [], _ => ⟨Int.le_refl _, by simp [prI]⟩
  | e :: w, h => by
    obtain ⟨i1, i2⟩ := prI_le hB (w := w) fun e' h' => h e' (List.mem_cons_of_mem _ h')
    obtain ⟨a, b⟩ := h e (by simp)
    constructor
    · have := Int.mul_le_mul a i1 (by omega) (by omega)
      show 1 ≤ f e * prI f w
      omega
    · show f e * prI f w ≤ B ^ (w.length + 1)
      rw [Int.pow_succ, Int.mul_comm]
      exact Int.mul_le_mul i2 b (by omega) (by have := Int.pow_pos (n := B) (m := w.length) (by omega); omega)
theorem den_le {r : Ratio} (hr : redR r) {N M : Int} (hM : 1 ≤ M) (h : vR r = vq N M) : r.d ≤ M := by
  obtain ⟨h1, h2, h3⟩ := hr
  have e1 := (vq_le (n := r.n) (d := r.d) (n' := N) (d' := M) (by omega) (by omega)).1 (by rw [← h]; exact Rat.le_refl)
  have e2 := (vq_le (n := N) (d := M) (n' := r.n) (d' := r.d) (by omega) (by omega)).1 (by rw [← h]; exact Rat.le_refl)
  have e : r.n * M = N * r.d := by omega
  obtain ⟨n, hn⟩ := Int.eq_ofNat_of_zero_le (show 0 ≤ r.n by omega)
  obtain ⟨d, hd⟩ := Int.eq_ofNat_of_zero_le (show 0 ≤ r.d by omega)
  obtain ⟨m, hm⟩ := Int.eq_ofNat_of_zero_le (show 0 ≤ M by omega)
  have hd1 : (d : Int) ∣ (n * m : Nat) := ⟨N, by rw [← hd, Int.natCast_mul, ← hn, ← hm, e, Int.mul_comm]⟩
  have hd2 := Int.natCast_dvd_natCast.1 hd1
  have hc : Nat.Coprime d n := by
    rw [hd, hn] at h3
    simpa [Nat.Coprime] using h3
  have hd3 := Nat.le_of_dvd (by omega) (hc.dvd_of_dvd_mul_left hd2)
  omega
theorem edge_den {p : Paper} (hok : zt p = true) {ax : Int} {e : Edge} (he : e ∈ zI p ax) : 1 ≤ e.q.d ∧ e.q.d ≤ 1000 := by
  obtain ⟨o1, o2, o3, o4, o5, o6⟩ := zJ hok
  simp only [zI, List.mem_append, List.mem_flatMap, List.mem_range'_1] at he
  rcases he with (⟨i, hi, he⟩ | he) | he
  · simp [sheetE] at he
    rcases he with rfl | rfl <;> simp only [] <;> omega
  · obtain ⟨m, k, h1, h2, h3⟩ := marksE_mem ax he
    have := o5 m h1
    simp [markOK, zA, isAxis, isSeen] at this
    simp [markE] at h3
    rcases h3 with rfl | rfl <;> simp only [] <;> omega
  · obtain ⟨m, k, h1, h2, h3⟩ := joinsE_mem ax he
    have := o6 m h1
    simp [joinOK, zA, isAxis, isSeen] at this
    simp [joinE] at h3
    rcases h3 with rfl | rfl <;> simp only [] <;> omega
theorem dist_den {p : Paper} (hok : zt p = true) (ax : Int) {s t : Nat} (hs : s < 1 + p.sheets) (ht : t < 1 + p.sheets) : (distF p ax s t).d ≤ 1000000000000 := by
  obtain ⟨r, w, w1, w2, w3⟩ := dist_real hok ax hs ht
  rw [prE_frac] at w3
  obtain ⟨a, b⟩ := prI_le (f := fun e => e.q.d) (B := 1000) (by decide) (w := w) fun e he => edge_den hok (w1.2 e he)
  have := den_le r a w3
  have h4 : (1000 : Int) ^ w.length ≤ 1000000000000 := by
    have : w.length = 0 ∨ w.length = 1 ∨ w.length = 2 ∨ w.length = 3 ∨ w.length = 4 := by omega
    rcases this with h | h | h | h | h <;> rw [h] <;> decide
  omega
/-- Ratios as they come up: in lowest terms, between a half and two. -/
def goodQ (r : Ratio) : Prop := redR r ∧ r.n ≤ 2 * r.d ∧ r.d ≤ 2 * r.n ∧ r.n ≤ 2000000000000 ∧ r.d ≤ 2000000000000
theorem goodQ_inv {r : Ratio} (h : goodQ r) : goodQ ⟨r.d, r.n⟩ := by
  obtain ⟨⟨a, b, c⟩, d, e, f, g⟩ := h
  exact ⟨⟨b, a, by rw [Int.gcd_comm]; exact c⟩, e, d, g, f⟩
theorem vR_two {r : Ratio} (hr : redR r) : vR r ≤ 2 ↔ r.n ≤ 2 * r.d := by
  have h2 : vR ⟨2, 1⟩ = 2 := by decide
  rw [← h2]
  unfold vR
  rw [vq_le (by have := hr.2.1; omega) (by decide)]
  constructor <;> intro h <;> simp only [] at h ⊢ <;> omega
section
variable {p : Paper} (hok : zt p = true) {ax : Int} (hc : clashA p ax = none) {i : Nat} (hi : (i : Int) < p.sheets)
include hok hc hi
theorem dist_two : vR (distF p ax (1 + i) 0) ≤ 2 ∧ vR (distF p ax 0 (1 + i)) ≤ 2 := by
  have b1 : ((1 + i : Nat) : Int) < 1 + p.sheets := by omega
  have b0 : ((0 : Nat) : Int) < 1 + p.sheets := by omega
  have hin : ∀ e ∈ sheetE i, e ∈ zI p ax := by
    intro e he
    simp only [zI, List.mem_append, List.mem_flatMap, List.mem_range'_1]
    exact .inl (.inl ⟨i, by omega, he⟩)
  have h2 : vR ⟨2, 1⟩ = 2 := by decide
  have hp1 : ∀ e ∈ sheetE i, prE [e] = 2 := by
    intro e he
    simp [sheetE] at he
    rcases he with rfl | rfl <;> (simp only [prE, pr, tE, List.map_cons, List.map_nil]; rw [h2, Rat.mul_one])
  constructor
  · have hw := wk_one (hin ⟨1 + i, 0, ⟨2, 1⟩, ⟨false, -1 - i, false⟩⟩ (by simp [sheetE]))
    rw [show ((1 + (i : Int)).toNat) = 1 + i by omega] at hw
    have := dist_least hok hc b1 b0 hw
    rwa [hp1 _ (by simp [sheetE])] at this
  · have hw := wk_one (hin ⟨0, 1 + i, ⟨2, 1⟩, ⟨false, -1 - i, true⟩⟩ (by simp [sheetE]))
    rw [show ((1 + (i : Int)).toNat) = 1 + i by omega] at hw
    have := dist_least hok hc b0 b1 hw
    rwa [hp1 _ (by simp [sheetE])] at this
theorem dist_good : goodQ (distF p ax (1 + i) 0) ∧ goodQ (distF p ax 0 (1 + i)) := by
  have b1 : ((1 + i : Nat) : Int) < 1 + p.sheets := by omega
  have b0 : ((0 : Nat) : Int) < 1 + p.sheets := by omega
  obtain ⟨r1, w, w1, -, w3⟩ := dist_real hok ax b1 b0
  obtain ⟨r2, v, v1, -, v3⟩ := dist_real hok ax b0 b1
  obtain ⟨t1, t2⟩ := dist_two hok hc hi
  have d1 := dist_den hok ax b1 b0
  have d2 := dist_den hok ax b0 b1
  have hp : ∀ t, inE (zI p ax) t → 0 < t.w := fun t h => (in_pos hok h).1
  have hn : ∀ t, inE (zI p ax) t → t.src < 5 ∧ t.dst < 5 := fun t h => (in_pos hok h).2
  have hone := closed_one hp hn (fair hok hc) (wk_append w1 v1).1
  have hone' : 1 ≤ vR (distF p ax (1 + i) 0) * vR (distF p ax 0 (1 + i)) := by rw [w3, v3, ← prE_append]; exact hone
  generalize distF p ax (1 + i) 0 = x at *
  generalize distF p ax 0 (1 + i) = y at *
  have x2 := (vR_two r1).1 t1
  have y2 := (vR_two r2).1 t2
  have hx := red_pos r1
  have hy := red_pos r2
  have key : ∀ a b : Ratio, redR a → redR b → vR b ≤ 2 → 1 ≤ vR a * vR b → a.d ≤ 2 * a.n := by
    intro a b ha hb h1 h2
    have h3 := Rat.mul_le_mul_of_nonneg_left h1 (Rat.le_of_lt (red_pos ha))
    have h4 := Rat.le_trans h2 h3
    have h5 : (1 : Rat) = vq 1 1 := vq_one.symm
    have h6 : (2 : Rat) = vq 2 1 := by decide
    rw [h5, h6] at h4
    unfold vR at h4
    rw [vq_mul, vq_le (by decide) (by have := ha.2.1; omega)] at h4
    omega
  exact ⟨⟨r1, x2, key x y r1 r2 t2 hone', by omega, by omega⟩, ⟨r2, y2, key y x r2 r1 t1 (by rw [Rat.mul_comm]; exact hone'), by omega, by omega⟩⟩
theorem hi_good : goodQ (hiF p i ax) := by rw [hi_dist]; exact (dist_good hok hc hi).1
theorem lo_good : goodQ (loF p i ax) := by rw [lo_dist2]; exact goodQ_inv (dist_good hok hc hi).2
end
/-- A zi times a ratio, rounded down, and up. -/
def dnF (x : Int) (r : Ratio) : Int := x * r.n / r.d
def upR (x : Int) (r : Ratio) : Int := if x * r.n % r.d = 0 then x * r.n / r.d else x * r.n / r.d + 1
def outF (s : Span) (a b : Ratio) : Span := ⟨dnF s.lo a, upR s.hi b⟩
def invR (r : Ratio) : Ratio := ⟨r.d, r.n⟩
theorem mul_le2 {x : Int} {r : Ratio} (h0 : 0 ≤ x) (hr : goodQ r) {B : Int} (hB : x ≤ B) : 0 ≤ x * r.n ∧ x * r.n ≤ B * 2000000000000 ∧ 0 ≤ dnF x r ∧ dnF x r ≤ 2 * x := by
  obtain ⟨⟨a, b, c⟩, d, e, f, g⟩ := hr
  have h1 := Int.mul_nonneg h0 (show 0 ≤ r.n by omega)
  refine ⟨h1, Int.mul_le_mul hB f (by omega) (by omega), Int.ediv_nonneg h1 (by omega), ?_⟩
  unfold dnF
  have : x * r.n ≤ 2 * x * r.d := by
    have := Int.mul_le_mul_of_nonneg_left d h0
    rw [← Int.mul_assoc, Int.mul_comm x 2] at this
    exact this
  exact Int.ediv_le_of_le_mul (by omega) this
theorem up_le2 {x : Int} {r : Ratio} (h0 : 0 ≤ x) (hr : goodQ r) : 0 ≤ upR x r ∧ upR x r ≤ 2 * x + 1 ∧ dnF x r ≤ upR x r := by
  obtain ⟨a, b, c, d⟩ := mul_le2 h0 hr (Int.le_refl x)
  unfold upR dnF at *
  split <;> omega
end Go.VS
namespace Go.VS
open Go Go.Proofs
set_option maxHeartbeats 0
set_option linter.unusedSimpArgs false

noncomputable def lp42_7 : Code := zB [1, 1, 1, 0, 1, 0, 0] (zo Tryd.f42)
theorem lk42_7 : cfg.keep 42 (zD lp42_7) = [1, 3, 5, 6, 23] := by kernel_rfl

theorem t118 (x y : Int) (hx : 0 ≤ x) (hx' : x < 9223372036854775808) (hy : 1 ≤ y) (hy' : y < 9223372036854775808) : (lim cfg).pure 118 [U 0, U x, U y] = some (.tup [U (x / y), U (x % y)]) := by
  have hy0 : (y == 0) = false := by simp; omega
  have hy1 : decide (y ≤ 0) = false := by simp; omega
  have hy2 : (y = 0) = False := by simp; omega
  have hq : IntKind.u64.wrap (x.tdiv y) = x / y := by
    rw [Int.tdiv_eq_ediv_of_nonneg hx, wrap_u64']
    have := Int.ediv_nonneg hx (show 0 ≤ y by omega)
    have := Int.ediv_le_self y hx
    omega
  have hr : x.tmod y = x % y := Int.tmod_eq_emod_of_nonneg hx
  refine zp (zk 118) cfn118 rfl (n := 135) rfl ?_
  simp only [bW, if_true, Nat.reduceEqDiff, if_false, zi]
  repeat' first | (intro hb; first | cases hb | skip) | ((first | apply z6 | apply zc); (· rfl); (· simp (disch := assumption) only [go_sem, Nat.reduceEqDiff, Nat.reduceAdd, bP, zd, Nat.reduceLeDiff, Nat.reduceLT, Nat.reduceMul, List.length_append, decide_eq_true_eq, z7, z0, Int.reduceToNat, Int.reduceLE, Int.reduceLT, Int.reduceBNe, Int.reduceBEq, hy0, hy1, hy2, hq, hr]; rfl); (· simp only [go_sem, Nat.reduceLT, Nat.reduceEqDiff]; rfl); (· rfl); first | (apply zb; (· simp only [go_sem, Nat.reduceLT]; rfl); (· simp only [go_sem, Nat.reduceLT]; rfl)) | (apply zf; (· simp only [go_sem, Nat.reduceLT]; rfl))) | ((first | apply z9 | apply za); (· rfl); (· simp only [go_sem, Nat.reduceLT]; rfl)) | (apply z8; (· simp only [go_sem, Nat.reduceEqDiff])) | (apply z5; (· simp only [go_sem, Nat.reduceEqDiff])) | (apply ze; (· kernel_rfl); (· kernel_rfl)) | (simp only [bW, if_true, Nat.reduceEqDiff, if_false])
  all_goals simp only [go_sem, Nat.reduceEqDiff, bP, Nat.reduceAdd, Nat.reduceLeDiff, List.length_map, Tryd.f118]
  all_goals first | rfl | (simp_all []; done) | (simp_all []; intros; omega)

theorem t111 (x y : Int) (hx : 0 ≤ x) (hx' : x < 9223372036854775808) (hy : 1 ≤ y) (hy' : y < 9223372036854775808) : (lim cfg).pure 111 [.agg [U 0, U x], I y] = some (.tup [I (x / y), B (x % y != 0)]) := by
  have e1 := t118 x y hx hx' hy hy'
  have w1 : IntKind.u64.wrap y = y := by rw [wrap_u64']; omega
  have w2 : IntKind.i64.wrap (x / y) = x / y := by
    have := Int.ediv_nonneg hx (show 0 ≤ y by omega)
    have := Int.ediv_le_self y hx
    exact wrap_i64 (by omega) (by omega)
  refine zp (zk 111) cfn111 rfl (n := 22) rfl ?_
  simp only [bW, if_true, Nat.reduceEqDiff, if_false, zi]
  repeat' first | (intro hb; first | cases hb | skip) | ((first | apply z6 | apply zc); (· rfl); (· simp (disch := assumption) only [go_sem, Nat.reduceEqDiff, Nat.reduceAdd, bP, zd, Nat.reduceLeDiff, Nat.reduceLT, Nat.reduceMul, List.length_append, decide_eq_true_eq, z7, z0, Int.reduceToNat, Int.reduceLE, Int.reduceLT, Int.reduceBNe, Int.reduceBEq, e1, w1, w2]; rfl); (· simp only [go_sem, Nat.reduceLT, Nat.reduceEqDiff]; rfl); (· rfl); first | (apply zb; (· simp only [go_sem, Nat.reduceLT]; rfl); (· simp only [go_sem, Nat.reduceLT]; rfl)) | (apply zf; (· simp only [go_sem, Nat.reduceLT]; rfl))) | ((first | apply z9 | apply za); (· rfl); (· simp only [go_sem, Nat.reduceLT]; rfl)) | (apply z8; (· simp only [go_sem, Nat.reduceEqDiff])) | (apply z5; (· simp only [go_sem, Nat.reduceEqDiff])) | (apply ze; (· kernel_rfl); (· kernel_rfl)) | (simp only [bW, if_true, Nat.reduceEqDiff, if_false])
  all_goals simp only [go_sem, Nat.reduceEqDiff, bP, Nat.reduceAdd, Nat.reduceLeDiff, List.length_map, Tryd.f111]
  all_goals first | rfl | (simp_all []; done) | (simp_all []; intros; omega)

theorem t69s (x y : Int) (hx : 0 ≤ x) (hx' : x < 9223372036854775808) (hy : 0 ≤ y) (hy' : y < 9223372036854775808) (h0 : 0 ≤ x * y) (h : x * y < 9223372036854775808) : (lim cfg).pure 69 [I x, I y] = some (.agg [U 0, U (x * y)]) := by
  have := t69 x y hx hx' hy hy'
  rw [this]
  have e1 : hi64 x y = 0 := by unfold hi64; omega
  have e2 : lo64 x y = x * y := by unfold lo64; omega
  rw [e1, e2]

theorem t89 (s : Span) (a b : Ratio) (h1 : 0 ≤ s.lo) (h2 : s.lo ≤ 4194304) (h3 : 0 ≤ s.hi) (h4 : s.hi ≤ 4194304) (ha : goodQ a) (hb : goodQ b) : (lim cfg).pure 89 [.agg [I s.lo, I s.hi], .agg [I a.n, I a.d], .agg [I b.n, I b.d]] = some (.agg [I (outF s a b).lo, I (outF s a b).hi]) := by
  obtain ⟨a1, a2, a3, a4⟩ := mul_le2 h1 ha h2
  obtain ⟨b1, b2, b3, b4⟩ := mul_le2 h3 hb h4
  obtain ⟨⟨p1, p2, p3⟩, p4, p5, p6, p7⟩ := ha
  obtain ⟨⟨q1, q2, q3⟩, q4, q5, q6, q7⟩ := hb
  have e1 := t69s s.lo a.n h1 (by omega) (by omega) (by omega) a1 (by omega)
  have e2 := t69s s.hi b.n h3 (by omega) (by omega) (by omega) b1 (by omega)
  have e3 := t111 (s.lo * a.n) a.d a1 (by omega) p2 (by omega)
  have e4 := t111 (s.hi * b.n) b.d b1 (by omega) q2 (by omega)
  by_cases hz : s.hi * b.n % b.d = 0
  · have hz1 : (s.hi * b.n % b.d != 0) = false := by simp [hz]
    have hu : (outF s a b).hi = s.hi * b.n / b.d := by unfold outF upR; rw [if_pos hz]
    have hd : (outF s a b).lo = s.lo * a.n / a.d := rfl
    rw [hu, hd]
    refine zp (zk 89) cfn89 rfl (n := 39) rfl ?_
    simp only [bW, if_true, Nat.reduceEqDiff, if_false, zi]
    repeat' first | (intro hb; first | cases hb | skip) | ((first | apply z6 | apply zc); (· rfl); (· simp (disch := assumption) only [go_sem, Nat.reduceEqDiff, Nat.reduceAdd, bP, zd, Nat.reduceLeDiff, Nat.reduceLT, Nat.reduceMul, List.length_append, decide_eq_true_eq, z7, z0, Int.reduceToNat, Int.reduceLE, Int.reduceLT, Int.reduceBNe, Int.reduceBEq, e1, e2, e3, e4, hz1]; rfl); (· simp only [go_sem, Nat.reduceLT, Nat.reduceEqDiff]; rfl); (· rfl); first | (apply zb; (· simp only [go_sem, Nat.reduceLT]; rfl); (· simp only [go_sem, Nat.reduceLT]; rfl)) | (apply zf; (· simp only [go_sem, Nat.reduceLT]; rfl))) | ((first | apply z9 | apply za); (· rfl); (· simp only [go_sem, Nat.reduceLT]; rfl)) | (apply z8; (· simp only [go_sem, Nat.reduceEqDiff])) | (apply z5; (· simp only [go_sem, Nat.reduceEqDiff])) | (apply ze; (· kernel_rfl); (· kernel_rfl)) | (simp only [bW, if_true, Nat.reduceEqDiff, if_false])
    all_goals try simp only [go_sem, Nat.reduceEqDiff, bP, Nat.reduceAdd, Nat.reduceLeDiff, List.length_map, Tryd.f89]
    all_goals first | done | rfl | (simp_all []; done) | trace_state
  · have hz1 : (s.hi * b.n % b.d != 0) = true := by simp [hz]
    have hu : (outF s a b).hi = s.hi * b.n / b.d + 1 := by unfold outF upR; rw [if_neg hz]
    have hd : (outF s a b).lo = s.lo * a.n / a.d := rfl
    have hw : IntKind.i64.wrap (s.hi * b.n / b.d + 1) = s.hi * b.n / b.d + 1 := by unfold dnF at b3 b4; exact wrap_i64 (by omega) (by omega)
    rw [hu, hd]
    refine zp (zk 89) cfn89 rfl (n := 39) rfl ?_
    simp only [bW, if_true, Nat.reduceEqDiff, if_false, zi]
    repeat' first | (intro hb; first | cases hb | skip) | ((first | apply z6 | apply zc); (· rfl); (· simp (disch := assumption) only [go_sem, Nat.reduceEqDiff, Nat.reduceAdd, bP, zd, Nat.reduceLeDiff, Nat.reduceLT, Nat.reduceMul, List.length_append, decide_eq_true_eq, z7, z0, Int.reduceToNat, Int.reduceLE, Int.reduceLT, Int.reduceBNe, Int.reduceBEq, e1, e2, e3, e4, hz1, hw]; rfl); (· simp only [go_sem, Nat.reduceLT, Nat.reduceEqDiff]; rfl); (· rfl); first | (apply zb; (· simp only [go_sem, Nat.reduceLT]; rfl); (· simp only [go_sem, Nat.reduceLT]; rfl)) | (apply zf; (· simp only [go_sem, Nat.reduceLT]; rfl))) | ((first | apply z9 | apply za); (· rfl); (· simp only [go_sem, Nat.reduceLT]; rfl)) | (apply z8; (· simp only [go_sem, Nat.reduceEqDiff])) | (apply z5; (· simp only [go_sem, Nat.reduceEqDiff])) | (apply ze; (· kernel_rfl); (· kernel_rfl)) | (simp only [bW, if_true, Nat.reduceEqDiff, if_false])
    all_goals try simp only [go_sem, Nat.reduceEqDiff, bP, Nat.reduceAdd, Nat.reduceLeDiff, List.length_map, Tryd.f89]
    all_goals first | done | rfl | (simp_all []; done) | trace_state

def lenF (p : Paper) (s ax : Int) (x : Span) : Span := outF x (invR (hiF p s ax)) (invR (loF p s ax))
def seeF (p : Paper) (s ax : Int) (x : Span) : Span := outF x (loF p s ax) (hiF p s ax)
def spB (x : Span) (n : Int) : Prop := 0 ≤ x.lo ∧ x.lo ≤ x.hi ∧ x.hi ≤ n
theorem outB {x : Span} {a b : Ratio} {n : Int} (h : spB x n) (ha : goodQ a) (hb : goodQ b) : 0 ≤ (outF x a b).lo ∧ (outF x a b).lo ≤ 2 * n + 1 ∧ 0 ≤ (outF x a b).hi ∧ (outF x a b).hi ≤ 2 * n + 1 := by
  obtain ⟨h1, h2, h3⟩ := h
  obtain ⟨a1, a2, a3, a4⟩ := mul_le2 h1 ha (Int.le_refl _)
  obtain ⟨b1, b2, b3⟩ := up_le2 (show 0 ≤ x.hi by omega) hb
  have e1 : (outF x a b).lo = dnF x.lo a := rfl
  have e2 : (outF x a b).hi = upR x.hi b := rfl
  omega
theorem t86 (p : Paper) (s ax : Int) (x : Span) (hwf : p.wf) (hok : zt p = true) (hc : clashA p ax = none) (hs : zA p s = true) (h1 : 0 ≤ x.lo) (h2 : x.lo ≤ 4194304) (h3 : 0 ≤ x.hi) (h4 : x.hi ≤ 4194304) : (lim cfg).pure 86 [zh p, I s, I ax, .agg [I x.lo, I x.hi]] = some (.agg [I (lenF p s ax x).lo, I (lenF p s ax x).hi]) := by
  have h73 := t73 p s ax hwf hok hs
  obtain ⟨i, rfl, hi, _⟩ := sheet_nat hs
  have g1 := goodQ_inv (hi_good hok hc (i := i) (by omega))
  have g2 := goodQ_inv (lo_good hok hc (i := i) (by omega))
  have h89 := t89 x (invR (hiF p i ax)) (invR (loF p i ax)) h1 h2 h3 h4 g1 g2
  unfold lenF
  simp only [invR] at h89 ⊢
  refine zp (zk 86) cfn86 rfl (n := 22) rfl ?_
  simp only [bW, if_true, Nat.reduceEqDiff, if_false, zi]
  repeat' first | (intro hb; first | cases hb | skip) | ((first | apply z6 | apply zc); (· rfl); (· simp (disch := assumption) only [go_sem, Nat.reduceEqDiff, Nat.reduceAdd, bP, zd, Nat.reduceLeDiff, Nat.reduceLT, Nat.reduceMul, List.length_append, decide_eq_true_eq, z7, z0, Int.reduceToNat, Int.reduceLE, Int.reduceLT, Int.reduceBNe, Int.reduceBEq, h73, h89, t97, show (0 : Nat) < 2 from by decide, show (1 : Nat) < 2 from by decide]; rfl); (· simp only [go_sem, Nat.reduceLT, Nat.reduceEqDiff]; rfl); (· rfl); first | (apply zb; (· simp only [go_sem, Nat.reduceLT]; rfl); (· simp only [go_sem, Nat.reduceLT]; rfl)) | (apply zf; (· simp only [go_sem, Nat.reduceLT]; rfl))) | ((first | apply z9 | apply za); (· rfl); (· simp only [go_sem, Nat.reduceLT]; rfl)) | (apply z8; (· simp only [go_sem, Nat.reduceEqDiff])) | (apply z5; (· simp only [go_sem, Nat.reduceEqDiff])) | (apply ze; (· kernel_rfl); (· kernel_rfl)) | (simp only [bW, if_true, Nat.reduceEqDiff, if_false])
  all_goals try simp only [go_sem, Nat.reduceEqDiff, bP, Nat.reduceAdd, Nat.reduceLeDiff, List.length_map, Tryd.f86]
  all_goals first | done | rfl | (simp_all []; done) | trace_state

theorem span_B {x : Span} (h : spanOK x = true) : spB x 1048576 := by
  simp [spanOK] at h
  exact ⟨h.1.1, h.1.2, h.2⟩
def Dsp (x : Span) : D := .agg [I x.lo, I x.hi]
theorem t38 (p : Paper) (s ax : Int) (x : Span) (hwf : p.wf) : (lim cfg).pure 38 [zh p, I s, I ax, .agg [I x.lo, I x.hi]] = some (if zu p ax [s] = 0 then (if spanOK x then .tup [Dsp (lenF p s ax x), I 0] else .tup [Dsp ⟨0, 0⟩, I 1]) else .tup [Dsp ⟨0, 0⟩, I (zu p ax [s])]) := by
  have h71 := t71 p ax false [s] hwf 1 (by simp) (by simp) (by simp)
  simp only [List.map_cons, List.map_nil] at h71
  have h85 := t85 x
  simp only [encS] at h85
  by_cases hk : zu p ax [s] = 0
  · rw [if_pos hk]
    rw [hk] at h71
    obtain ⟨hok, hp, hs, hax⟩ := known_zero.1 hk
    simp at hs
    cases hx : spanOK x with
    | false =>
      rw [hx] at h85
      simp only [Bool.false_eq_true, if_false]
      refine zp (zk 38) cfn38 rfl (n := 29) rfl ?_
      simp only [bW, if_true, Nat.reduceEqDiff, if_false, zi]
      repeat' first | (intro hb; first | cases hb | skip) | ((first | apply z6 | apply zc); (· rfl); (· simp (disch := assumption) only [go_sem, Nat.reduceEqDiff, Nat.reduceAdd, bP, zd, Nat.reduceLeDiff, Nat.reduceLT, Nat.reduceMul, List.length_append, decide_eq_true_eq, z7, z0, Int.reduceToNat, Int.reduceLE, Int.reduceLT, Int.reduceBNe, Int.reduceBEq, h71, h85]; rfl); (· simp only [go_sem, Nat.reduceLT, Nat.reduceEqDiff]; rfl); (· rfl); first | (apply zb; (· simp only [go_sem, Nat.reduceLT]; rfl); (· simp only [go_sem, Nat.reduceLT]; rfl)) | (apply zf; (· simp only [go_sem, Nat.reduceLT]; rfl))) | ((first | apply z9 | apply za); (· rfl); (· simp only [go_sem, Nat.reduceLT]; rfl)) | (apply z8; (· simp only [go_sem, Nat.reduceEqDiff])) | (apply z5; (· simp only [go_sem, Nat.reduceEqDiff])) | (apply ze; (· kernel_rfl); (· kernel_rfl)) | (simp only [bW, if_true, Nat.reduceEqDiff, if_false])
      all_goals try simp only [go_sem, Nat.reduceEqDiff, bP, Nat.reduceAdd, Nat.reduceLeDiff, List.length_map, Tryd.f38, Dsp]
      all_goals first | done | rfl | (simp_all []; done) | trace_state
    | true =>
      rw [hx] at h85
      simp only [if_true]
      obtain ⟨b1, b2, b3⟩ := span_B hx
      have h86 := t86 p s ax x hwf hok (poss_none hp hax) hs b1 (by omega) (by omega) (by omega)
      refine zp (zk 38) cfn38 rfl (n := 29) rfl ?_
      simp only [bW, if_true, Nat.reduceEqDiff, if_false, zi]
      repeat' first | (intro hb; first | cases hb | skip) | ((first | apply z6 | apply zc); (· rfl); (· simp (disch := assumption) only [go_sem, Nat.reduceEqDiff, Nat.reduceAdd, bP, zd, Nat.reduceLeDiff, Nat.reduceLT, Nat.reduceMul, List.length_append, decide_eq_true_eq, z7, z0, Int.reduceToNat, Int.reduceLE, Int.reduceLT, Int.reduceBNe, Int.reduceBEq, h71, h85, h86]; rfl); (· simp only [go_sem, Nat.reduceLT, Nat.reduceEqDiff]; rfl); (· rfl); first | (apply zb; (· simp only [go_sem, Nat.reduceLT]; rfl); (· simp only [go_sem, Nat.reduceLT]; rfl)) | (apply zf; (· simp only [go_sem, Nat.reduceLT]; rfl))) | ((first | apply z9 | apply za); (· rfl); (· simp only [go_sem, Nat.reduceLT]; rfl)) | (apply z8; (· simp only [go_sem, Nat.reduceEqDiff])) | (apply z5; (· simp only [go_sem, Nat.reduceEqDiff])) | (apply ze; (· kernel_rfl); (· kernel_rfl)) | (simp only [bW, if_true, Nat.reduceEqDiff, if_false])
      all_goals try simp only [go_sem, Nat.reduceEqDiff, bP, Nat.reduceAdd, Nat.reduceLeDiff, List.length_map, Tryd.f38, Dsp]
      all_goals first | done | rfl | (simp_all []; done) | trace_state
  · rw [if_neg hk]
    have hne : (zu p ax [s] != 0) = true := by simp [hk]
    refine zp (zk 38) cfn38 rfl (n := 29) rfl ?_
    simp only [bW, if_true, Nat.reduceEqDiff, if_false, zi]
    repeat' first | (intro hb; first | cases hb | skip) | ((first | apply z6 | apply zc); (· rfl); (· simp (disch := assumption) only [go_sem, Nat.reduceEqDiff, Nat.reduceAdd, bP, zd, Nat.reduceLeDiff, Nat.reduceLT, Nat.reduceMul, List.length_append, decide_eq_true_eq, z7, z0, Int.reduceToNat, Int.reduceLE, Int.reduceLT, Int.reduceBNe, Int.reduceBEq, h71, hne]; rfl); (· simp only [go_sem, Nat.reduceLT, Nat.reduceEqDiff]; rfl); (· rfl); first | (apply zb; (· simp only [go_sem, Nat.reduceLT]; rfl); (· simp only [go_sem, Nat.reduceLT]; rfl)) | (apply zf; (· simp only [go_sem, Nat.reduceLT]; rfl))) | ((first | apply z9 | apply za); (· rfl); (· simp only [go_sem, Nat.reduceLT]; rfl)) | (apply z8; (· simp only [go_sem, Nat.reduceEqDiff])) | (apply z5; (· simp only [go_sem, Nat.reduceEqDiff])) | (apply ze; (· kernel_rfl); (· kernel_rfl)) | (simp only [bW, if_true, Nat.reduceEqDiff, if_false])
    all_goals try simp only [go_sem, Nat.reduceEqDiff, bP, Nat.reduceAdd, Nat.reduceLeDiff, List.length_map, Tryd.f38, Dsp]
    all_goals first | done | rfl | (simp_all []; done) | trace_state

theorem t40 (p : Paper) (s : Int) (x : Span) (hwf : p.wf) : (lim cfg).pure 40 [zh p, I s, .agg [I x.lo, I x.hi]] = some (if zu p 0 [s] = 0 then (if spanOK x then .tup [Dsp (lenF p s 1 (lenF p s 0 x)), I 0] else .tup [Dsp ⟨0, 0⟩, I 1]) else .tup [Dsp ⟨0, 0⟩, I (zu p 0 [s])]) := by
  have h38 := t38 p s 0 x hwf
  by_cases hk : zu p 0 [s] = 0
  · rw [if_pos hk] at h38 ⊢
    obtain ⟨hok, hp, hs, hax⟩ := known_zero.1 hk
    simp at hs
    cases hx : spanOK x with
    | false =>
      rw [hx] at h38
      simp only [Bool.false_eq_true, if_false] at h38 ⊢
      refine zp (zk 40) cfn40 rfl (n := 25) rfl ?_
      simp only [bW, if_true, Nat.reduceEqDiff, if_false, zi]
      repeat' first | (intro hb; first | cases hb | skip) | ((first | apply z6 | apply zc); (· rfl); (· simp (disch := assumption) only [go_sem, Nat.reduceEqDiff, Nat.reduceAdd, bP, zd, Nat.reduceLeDiff, Nat.reduceLT, Nat.reduceMul, List.length_append, decide_eq_true_eq, z7, z0, Int.reduceToNat, Int.reduceLE, Int.reduceLT, Int.reduceBNe, Int.reduceBEq, h38, Dsp]; rfl); (· simp only [go_sem, Nat.reduceLT, Nat.reduceEqDiff]; rfl); (· rfl); first | (apply zb; (· simp only [go_sem, Nat.reduceLT]; rfl); (· simp only [go_sem, Nat.reduceLT]; rfl)) | (apply zf; (· simp only [go_sem, Nat.reduceLT]; rfl))) | ((first | apply z9 | apply za); (· rfl); (· simp only [go_sem, Nat.reduceLT]; rfl)) | (apply z8; (· simp only [go_sem, Nat.reduceEqDiff])) | (apply z5; (· simp only [go_sem, Nat.reduceEqDiff])) | (apply ze; (· kernel_rfl); (· kernel_rfl)) | (simp only [bW, if_true, Nat.reduceEqDiff, if_false])
      all_goals try simp only [go_sem, Nat.reduceEqDiff, bP, Nat.reduceAdd, Nat.reduceLeDiff, List.length_map, Tryd.f40, Dsp]
      all_goals first | done | rfl | (simp_all []; done) | trace_state
    | true =>
      rw [hx] at h38
      simp only [if_true] at h38 ⊢
      obtain ⟨i, rfl, hi, _⟩ := sheet_nat hs
      obtain ⟨b1, b2, b3, b4⟩ := outB (span_B hx) (goodQ_inv (hi_good hok (poss_none hp hax) (i := i) (by omega))) (goodQ_inv (lo_good hok (poss_none hp hax) (i := i) (by omega)))
      have h86 := t86 p i 1 (lenF p i 0 x) hwf hok (poss_none hp rfl) hs b1 (by simp only [lenF, invR] at *; omega) b3 (by simp only [lenF, invR] at *; omega)
      refine zp (zk 40) cfn40 rfl (n := 25) rfl ?_
      simp only [bW, if_true, Nat.reduceEqDiff, if_false, zi]
      repeat' first | (intro hb; first | cases hb | skip) | ((first | apply z6 | apply zc); (· rfl); (· simp (disch := assumption) only [go_sem, Nat.reduceEqDiff, Nat.reduceAdd, bP, zd, Nat.reduceLeDiff, Nat.reduceLT, Nat.reduceMul, List.length_append, decide_eq_true_eq, z7, z0, Int.reduceToNat, Int.reduceLE, Int.reduceLT, Int.reduceBNe, Int.reduceBEq, h38, h86, Dsp, bne_self_eq_false]; rfl); (· simp only [go_sem, Nat.reduceLT, Nat.reduceEqDiff]; rfl); (· rfl); first | (apply zb; (· simp only [go_sem, Nat.reduceLT]; rfl); (· simp only [go_sem, Nat.reduceLT]; rfl)) | (apply zf; (· simp only [go_sem, Nat.reduceLT]; rfl))) | ((first | apply z9 | apply za); (· rfl); (· simp only [go_sem, Nat.reduceLT]; rfl)) | (apply z8; (· simp only [go_sem, Nat.reduceEqDiff])) | (apply z5; (· simp only [go_sem, Nat.reduceEqDiff])) | (apply ze; (· kernel_rfl); (· kernel_rfl)) | (simp only [bW, if_true, Nat.reduceEqDiff, if_false])
      all_goals try simp only [go_sem, Nat.reduceEqDiff, bP, Nat.reduceAdd, Nat.reduceLeDiff, List.length_map, Tryd.f40, Dsp]
      all_goals first | done | rfl | (simp_all []; done) | trace_state
  · rw [if_neg hk] at h38 ⊢
    have hne : (zu p 0 [s] != 0) = true := by simp [hk]
    refine zp (zk 40) cfn40 rfl (n := 25) rfl ?_
    simp only [bW, if_true, Nat.reduceEqDiff, if_false, zi]
    repeat' first | (intro hb; first | cases hb | skip) | ((first | apply z6 | apply zc); (· rfl); (· simp (disch := assumption) only [go_sem, Nat.reduceEqDiff, Nat.reduceAdd, bP, zd, Nat.reduceLeDiff, Nat.reduceLT, Nat.reduceMul, List.length_append, decide_eq_true_eq, z7, z0, Int.reduceToNat, Int.reduceLE, Int.reduceLT, Int.reduceBNe, Int.reduceBEq, h38, hne, Dsp]; rfl); (· simp only [go_sem, Nat.reduceLT, Nat.reduceEqDiff]; rfl); (· rfl); first | (apply zb; (· simp only [go_sem, Nat.reduceLT]; rfl); (· simp only [go_sem, Nat.reduceLT]; rfl)) | (apply zf; (· simp only [go_sem, Nat.reduceLT]; rfl))) | ((first | apply z9 | apply za); (· rfl); (· simp only [go_sem, Nat.reduceLT]; rfl)) | (apply z8; (· simp only [go_sem, Nat.reduceEqDiff])) | (apply z5; (· simp only [go_sem, Nat.reduceEqDiff])) | (apply ze; (· kernel_rfl); (· kernel_rfl)) | (simp only [bW, if_true, Nat.reduceEqDiff, if_false])
    all_goals try simp only [go_sem, Nat.reduceEqDiff, bP, Nat.reduceAdd, Nat.reduceLeDiff, List.length_map, Tryd.f40, Dsp]
    all_goals first | done | rfl | (simp_all []; done) | trace_state

theorem t42 (p : Paper) (s : Int) (x : Span) (hwf : p.wf) : (lim cfg).pure 42 [zh p, I s, .agg [I x.lo, I x.hi]] = some (if zu p 0 [s] = 0 then (if spanOK x then .tup [Dsp (seeF p s 1 (seeF p s 0 x)), I 0] else .tup [Dsp ⟨0, 0⟩, I 1]) else .tup [Dsp ⟨0, 0⟩, I (zu p 0 [s])]) := by
  have h71 := t71 p 0 false [s] hwf 1 (by simp) (by simp) (by simp)
  simp only [List.map_cons, List.map_nil] at h71
  have h85 := t85 x
  simp only [encS] at h85
  by_cases hk : zu p 0 [s] = 0
  · rw [if_pos hk]
    rw [hk] at h71
    obtain ⟨hok, hp, hs, hax⟩ := known_zero.1 hk
    simp at hs
    cases hx : spanOK x with
    | false =>
      rw [hx] at h85
      simp only [Bool.false_eq_true, if_false]
      refine zp (zk 42) cfn42 rfl (n := 38) rfl ?_
      simp only [bW, if_true, Nat.reduceEqDiff, if_false, zi]
      repeat' first | (intro hb; first | cases hb | skip) | ((first | apply z6 | apply zc); (· rfl); (· simp (disch := assumption) only [go_sem, Nat.reduceEqDiff, Nat.reduceAdd, bP, zd, Nat.reduceLeDiff, Nat.reduceLT, Nat.reduceMul, List.length_append, decide_eq_true_eq, z7, z0, Int.reduceToNat, Int.reduceLE, Int.reduceLT, Int.reduceBNe, Int.reduceBEq, h71, h85]; rfl); (· simp only [go_sem, Nat.reduceLT, Nat.reduceEqDiff]; rfl); (· rfl); first | (apply zb; (· simp only [go_sem, Nat.reduceLT]; rfl); (· simp only [go_sem, Nat.reduceLT]; rfl)) | (apply zf; (· simp only [go_sem, Nat.reduceLT]; rfl))) | ((first | apply z9 | apply za); (· rfl); (· simp only [go_sem, Nat.reduceLT]; rfl)) | (apply z8; (· simp only [go_sem, Nat.reduceEqDiff])) | (apply z5; (· simp only [go_sem, Nat.reduceEqDiff])) | (apply ze; (· kernel_rfl); (· kernel_rfl)) | (simp only [bW, if_true, Nat.reduceEqDiff, if_false])
      all_goals try simp only [go_sem, Nat.reduceEqDiff, bP, Nat.reduceAdd, Nat.reduceLeDiff, List.length_map, Tryd.f42, Dsp]
      all_goals first | done | rfl | (simp_all []; done) | trace_state
    | true =>
      rw [hx] at h85
      simp only [if_true]
      obtain ⟨b1, b2, b3⟩ := span_B hx
      have h730 := t73 p s 0 hwf hok hs
      have h731 := t73 p s 1 hwf hok hs
      obtain ⟨i, rfl, hi, _⟩ := sheet_nat hs
      have g1 := lo_good hok (poss_none hp (show isAxis 0 = true from rfl)) (i := i) (by omega)
      have g2 := hi_good hok (poss_none hp (show isAxis 0 = true from rfl)) (i := i) (by omega)
      have g3 := lo_good hok (poss_none hp (show isAxis 1 = true from rfl)) (i := i) (by omega)
      have g4 := hi_good hok (poss_none hp (show isAxis 1 = true from rfl)) (i := i) (by omega)
      have h890 := t89 x (loF p i 0) (hiF p i 0) b1 (by omega) (by omega) (by omega) g1 g2
      obtain ⟨c1, c2, c3, c4⟩ := outB (span_B hx) g1 g2
      have h891 := t89 (seeF p i 0 x) (loF p i 1) (hiF p i 1) c1 (by simp only [seeF] at *; omega) c3 (by simp only [seeF] at *; omega) g3 g4
      rw [show outF x (loF p i 0) (hiF p i 0) = seeF p i 0 x from rfl] at h890
      rw [show outF (seeF p i 0 x) (loF p i 1) (hiF p i 1) = seeF p i 1 (seeF p i 0 x) from rfl] at h891
      refine zp (zk 42) cfn42 rfl (n := 38) rfl ?_
      simp only [bW, if_true, Nat.reduceEqDiff, if_false, zi]
      repeat' first | (intro hb; first | cases hb | skip) | ((first | apply z6 | apply zc); (· rfl); (· simp (disch := assumption) only [go_sem, Nat.reduceEqDiff, Nat.reduceAdd, bP, zd, Nat.reduceLeDiff, Nat.reduceLT, Nat.reduceMul, List.length_append, decide_eq_true_eq, z7, z0, Int.reduceToNat, Int.reduceLE, Int.reduceLT, Int.reduceBNe, Int.reduceBEq, h71, h85]; rfl); (· simp only [go_sem, Nat.reduceLT, Nat.reduceEqDiff]; rfl); (· rfl); first | (apply zb; (· simp only [go_sem, Nat.reduceLT]; rfl); (· simp only [go_sem, Nat.reduceLT]; rfl)) | (apply zf; (· simp only [go_sem, Nat.reduceLT]; rfl))) | ((first | apply z9 | apply za); (· rfl); (· simp only [go_sem, Nat.reduceLT]; rfl)) | (apply z8; (· simp only [go_sem, Nat.reduceEqDiff])) | (apply z5; (· simp only [go_sem, Nat.reduceEqDiff])) | (apply ze; (· kernel_rfl); (· kernel_rfl)) | (simp only [bW, if_true, Nat.reduceEqDiff, if_false])
      refine w_loop (st1 := ⟨38, [(1, I (i : Nat)), (3, .lref 0 0 3 0), (5, .lref 1 0 2 0), (6, .lref 2 0 2 0), (23, I 0)], [(0, ⟨[zh p], 3, false⟩), (1, ⟨[.agg [I (x).lo, I (x).hi]], 2, false⟩), (2, ⟨[.agg [I 0, I 0]], 2, false⟩)], 3, 0⟩) lk42_7 (by kernel_rfl) ?_
      refine zv ?_
      try dsimp only [lp42_7, zB, zo, Tryd.f42]
      simp only [bW, if_true, Nat.reduceEqDiff, if_false]
      repeat' first | (intro hb; first | cases hb | skip) | ((first | apply z6 | apply zc); (· rfl); (· simp (disch := assumption) only [go_sem, Nat.reduceEqDiff, Nat.reduceAdd, bP, zd, Nat.reduceLeDiff, Nat.reduceLT, Nat.reduceMul, List.length_append, decide_eq_true_eq, z7, z0, Int.reduceToNat, Int.reduceLE, Int.reduceLT, Int.reduceBNe, Int.reduceBEq, h730, h890, show (0 : Nat) < 2 from by decide, show (1 : Nat) < 2 from by decide, show IntKind.i64.wrap (0 + 1) = 1 from by decide, show IntKind.i64.wrap (1 + 1) = 2 from by decide]; rfl); (· simp only [go_sem, Nat.reduceLT, Nat.reduceEqDiff]; rfl); (· rfl); first | (apply zb; (· simp only [go_sem, Nat.reduceLT]; rfl); (· simp only [go_sem, Nat.reduceLT]; rfl)) | (apply zf; (· simp only [go_sem, Nat.reduceLT]; rfl))) | ((first | apply z9 | apply za); (· rfl); (· simp only [go_sem, Nat.reduceLT]; rfl)) | (apply z8; (· simp only [go_sem, Nat.reduceEqDiff])) | (apply z5; (· simp only [go_sem, Nat.reduceEqDiff])) | (apply ze; (· kernel_rfl); (· kernel_rfl)) | (simp only [bW, if_true, Nat.reduceEqDiff, if_false])
      refine zM (st1 := ⟨38, [(1, I (i : Nat)), (3, .lref 0 0 3 0), (5, .lref 1 0 2 0), (6, .lref 2 0 2 0), (23, I 1)], [(0, ⟨[zh p], 3, false⟩), (1, ⟨[.agg [I (seeF p i 0 x).lo, I (seeF p i 0 x).hi]], 2, false⟩), (2, ⟨[.agg [I 0, I 0]], 2, false⟩)], 3, 0⟩) lk42_7 (by kernel_rfl) ?_
      refine zv ?_
      try dsimp only [lp42_7, zB, zo, Tryd.f42]
      simp only [bW, if_true, Nat.reduceEqDiff, if_false]
      repeat' first | (intro hb; first | cases hb | skip) | ((first | apply z6 | apply zc); (· rfl); (· simp (disch := assumption) only [go_sem, Nat.reduceEqDiff, Nat.reduceAdd, bP, zd, Nat.reduceLeDiff, Nat.reduceLT, Nat.reduceMul, List.length_append, decide_eq_true_eq, z7, z0, Int.reduceToNat, Int.reduceLE, Int.reduceLT, Int.reduceBNe, Int.reduceBEq, h731, h891, show (0 : Nat) < 2 from by decide, show (1 : Nat) < 2 from by decide, show IntKind.i64.wrap (0 + 1) = 1 from by decide, show IntKind.i64.wrap (1 + 1) = 2 from by decide]; rfl); (· simp only [go_sem, Nat.reduceLT, Nat.reduceEqDiff]; rfl); (· rfl); first | (apply zb; (· simp only [go_sem, Nat.reduceLT]; rfl); (· simp only [go_sem, Nat.reduceLT]; rfl)) | (apply zf; (· simp only [go_sem, Nat.reduceLT]; rfl))) | ((first | apply z9 | apply za); (· rfl); (· simp only [go_sem, Nat.reduceLT]; rfl)) | (apply z8; (· simp only [go_sem, Nat.reduceEqDiff])) | (apply z5; (· simp only [go_sem, Nat.reduceEqDiff])) | (apply ze; (· kernel_rfl); (· kernel_rfl)) | (simp only [bW, if_true, Nat.reduceEqDiff, if_false])
      refine zM (st1 := ⟨38, [(1, I (i : Nat)), (3, .lref 0 0 3 0), (5, .lref 1 0 2 0), (6, .lref 2 0 2 0), (23, I 2)], [(0, ⟨[zh p], 3, false⟩), (1, ⟨[.agg [I (seeF p i 1 (seeF p i 0 x)).lo, I (seeF p i 1 (seeF p i 0 x)).hi]], 2, false⟩), (2, ⟨[.agg [I 0, I 0]], 2, false⟩)], 3, 0⟩) lk42_7 (by kernel_rfl) ?_
      refine zv ?_
      try dsimp only [lp42_7, zB, zo, Tryd.f42]
      simp only [bW, if_true, Nat.reduceEqDiff, if_false]
      repeat' first | (intro hb; first | cases hb | skip) | ((first | apply z6 | apply zc); (· rfl); (· simp (disch := assumption) only [go_sem, Nat.reduceEqDiff, Nat.reduceAdd, bP, zd, Nat.reduceLeDiff, Nat.reduceLT, Nat.reduceMul, List.length_append, decide_eq_true_eq, z7, z0, Int.reduceToNat, Int.reduceLE, Int.reduceLT, Int.reduceBNe, Int.reduceBEq, show (0 : Nat) < 2 from by decide, show (1 : Nat) < 2 from by decide, show IntKind.i64.wrap (0 + 1) = 1 from by decide, show IntKind.i64.wrap (1 + 1) = 2 from by decide]; rfl); (· simp only [go_sem, Nat.reduceLT, Nat.reduceEqDiff]; rfl); (· rfl); first | (apply zb; (· simp only [go_sem, Nat.reduceLT]; rfl); (· simp only [go_sem, Nat.reduceLT]; rfl)) | (apply zf; (· simp only [go_sem, Nat.reduceLT]; rfl))) | ((first | apply z9 | apply za); (· rfl); (· simp only [go_sem, Nat.reduceLT]; rfl)) | (apply z8; (· simp only [go_sem, Nat.reduceEqDiff])) | (apply z5; (· simp only [go_sem, Nat.reduceEqDiff])) | (apply ze; (· kernel_rfl); (· kernel_rfl)) | (simp only [bW, if_true, Nat.reduceEqDiff, if_false])
      all_goals try simp only [go_sem, Nat.reduceEqDiff, bP, Nat.reduceAdd, Nat.reduceLeDiff, List.length_map, Tryd.f42, Dsp]
      all_goals first | done | rfl | (simp_all []; done) | trace_state
  · rw [if_neg hk]
    have hne : (zu p 0 [s] != 0) = true := by simp [hk]
    refine zp (zk 42) cfn42 rfl (n := 38) rfl ?_
    simp only [bW, if_true, Nat.reduceEqDiff, if_false, zi]
    repeat' first | (intro hb; first | cases hb | skip) | ((first | apply z6 | apply zc); (· rfl); (· simp (disch := assumption) only [go_sem, Nat.reduceEqDiff, Nat.reduceAdd, bP, zd, Nat.reduceLeDiff, Nat.reduceLT, Nat.reduceMul, List.length_append, decide_eq_true_eq, z7, z0, Int.reduceToNat, Int.reduceLE, Int.reduceLT, Int.reduceBNe, Int.reduceBEq, h71, hne]; rfl); (· simp only [go_sem, Nat.reduceLT, Nat.reduceEqDiff]; rfl); (· rfl); first | (apply zb; (· simp only [go_sem, Nat.reduceLT]; rfl); (· simp only [go_sem, Nat.reduceLT]; rfl)) | (apply zf; (· simp only [go_sem, Nat.reduceLT]; rfl))) | ((first | apply z9 | apply za); (· rfl); (· simp only [go_sem, Nat.reduceLT]; rfl)) | (apply z8; (· simp only [go_sem, Nat.reduceEqDiff])) | (apply z5; (· simp only [go_sem, Nat.reduceEqDiff])) | (apply ze; (· kernel_rfl); (· kernel_rfl)) | (simp only [bW, if_true, Nat.reduceEqDiff, if_false])
    all_goals try simp only [go_sem, Nat.reduceEqDiff, bP, Nat.reduceAdd, Nat.reduceLeDiff, List.length_map, Tryd.f42, Dsp]
    all_goals first | done | rfl | (simp_all []; done) | trace_state

end Go.VS
/-
  Comparing ratios in range. (A text of this claim's own; nothing of it is trusted.)
-/
namespace Go.VS
open Go Go.VS.Walks
theorem ratio_good {r : Ratio} (h : goodQ r) : ratioOK r = true := by
  obtain ⟨⟨a, b, c⟩, d, e, f, g⟩ := h
  simp only [ratioOK, Bool.and_eq_true, decide_eq_true_eq]
  omega
/-! ### comparing -/
def orderF (a b : Ratio) : Int := if ratioOK a && ratioOK b then cmpR a b else 2
theorem ratio_pos {r : Ratio} (h : ratioOK r = true) : 1 ≤ r.n ∧ 1 ≤ r.d := by
  simp only [ratioOK, Bool.and_eq_true, decide_eq_true_eq] at h
  omega
theorem order_le {a b : Ratio} (ha : ratioOK a = true) (hb : ratioOK b = true) : (orderF a b = -1 ∨ orderF a b = 0) ↔ vR a ≤ vR b := by
  obtain ⟨a1, a2⟩ := ratio_pos ha
  obtain ⟨b1, b2⟩ := ratio_pos hb
  unfold orderF
  rw [ha, hb]
  simp only [Bool.and_self, if_true]
  unfold vR
  rw [vq_le (by omega) (by omega)]
  unfold cmpR cmpI
  split
  · simp; omega
  · split <;> simp <;> omega
theorem order_ge {a b : Ratio} (ha : ratioOK a = true) (hb : ratioOK b = true) (h : vR b ≤ vR a) : ¬ orderF a b < 0 := by
  obtain ⟨a1, a2⟩ := ratio_pos ha
  obtain ⟨b1, b2⟩ := ratio_pos hb
  unfold vR at h
  rw [vq_le (by omega) (by omega)] at h
  unfold orderF
  rw [ha, hb]
  simp only [Bool.and_self, if_true]
  unfold cmpR cmpI
  split
  · omega
  · split <;> omega
end Go.VS
/-
  The more is said, the narrower is what remains. (A text of this claim's own; nothing of it is trusted.)
-/
namespace Go.VS
open Go Go.VS.Walks
theorem dist_mono {q p : Paper} (h : SubP q p) (hok : zt p = true) {ax : Int} {s t : Nat} (hs : s < 1 + p.sheets) (ht : t < 1 + p.sheets) : vR (distF p ax s t) ≤ vR (distF q ax s t) := by
  obtain ⟨o1, o2, -⟩ := zJ hok
  have hsh := h.1
  by_cases hst : s = t
  · subst hst; unfold distF; rw [if_pos rfl, if_pos rfl]; exact Rat.le_refl
  · have e1 := dist_some (sub_ok h hok) ax (show (s : Int) < 1 + q.sheets by omega) (show (t : Int) < 1 + q.sheets by omega) hst
    have e2 := dist_some hok ax hs ht hst
    obtain ⟨_, c', c1, _, l1⟩ := chains_le (sub_edges h) (fun e he => (edge_nodes (sub_ok h hok) he).1) (fun e he => (edge_nodes hok he).1) (show s < 5 by omega) e1
    rw [e2] at c1; cases c1
    unfold distF
    rw [if_neg hst, if_neg hst]
    exact l1
theorem inv_mono {a b : Ratio} (ha : 1 ≤ a.n ∧ 1 ≤ a.d) (hb : 1 ≤ b.n ∧ 1 ≤ b.d) (h : vR a ≤ vR b) : vR (invR b) ≤ vR (invR a) := by
  unfold vR invR at *
  rw [vq_le (by omega) (by omega)] at h
  simp only []
  rw [vq_le (by omega) (by omega), Int.mul_comm b.d, Int.mul_comm a.d]
  exact h
theorem lo_mono {q p : Paper} (h : SubP q p) (hok : zt p = true) {ax : Int} {i : Nat} (hi : (i : Int) < p.sheets) : vR (loF q i ax) ≤ vR (loF p i ax) := by
  have hsh := h.1
  have m := dist_mono h hok (ax := ax) (s := 0) (t := 1 + i) (by omega) (by omega)
  have r1 := (dist_real hok ax (s := 0) (t := 1 + i) (by omega) (by omega)).1
  have r2 := (dist_real (sub_ok h hok) ax (s := 0) (t := 1 + i) (by omega) (by omega)).1
  rw [lo_dist2, lo_dist2]
  exact inv_mono ⟨r1.1, r1.2.1⟩ ⟨r2.1, r2.2.1⟩ m
theorem hi_mono {q p : Paper} (h : SubP q p) (hok : zt p = true) {ax : Int} {i : Nat} (hi : (i : Int) < p.sheets) : vR (hiF p i ax) ≤ vR (hiF q i ax) := by
  rw [hi_dist, hi_dist]
  exact dist_mono h hok (by omega) (by omega)
theorem betw_mono {q p : Paper} (h : SubP q p) (hok : zt p = true) {ax : Int} {i j : Nat} (hi : (i : Int) < p.sheets) (hj : (j : Int) < p.sheets) : vR (betwF p i j ax) ≤ vR (betwF q i j ax) := by
  rw [betw_dist, betw_dist]
  exact dist_mono h hok (by omega) (by omega)
theorem betw_ratio {p : Paper} (hok : zt p = true) {ax : Int} (hc : clashA p ax = none) {i j : Nat} (hi : (i : Int) < p.sheets) (hj : (j : Int) < p.sheets) : ratioOK (betwF p i j ax) = true := by
  rw [betw_dist]
  have b1 : ((1 + i : Nat) : Int) < 1 + p.sheets := by omega
  have b2 : ((1 + j : Nat) : Int) < 1 + p.sheets := by omega
  have b0 : ((0 : Nat) : Int) < 1 + p.sheets := by omega
  have r := (dist_real hok ax b1 b2).1
  have d := dist_den hok ax b1 b2
  have t := dist_tri hok hc b1 b0 b2
  have x := (dist_two hok hc hi).1
  have y := (dist_two hok hc hj).2
  have p1 := red_pos (dist_real hok ax b1 b0).1
  have p2 := red_pos (dist_real hok ax b0 b2).1
  generalize distF p ax (1 + i) (1 + j) = a at *
  generalize distF p ax (1 + i) 0 = u at *
  generalize distF p ax 0 (1 + j) = v at *
  have h4 : vR a ≤ vq 4 1 := by
    refine Rat.le_trans t ?_
    refine Rat.le_trans (Rat.mul_le_mul_of_nonneg_left y (Rat.le_of_lt p1)) ?_
    refine Rat.le_trans (Rat.mul_le_mul_of_nonneg_right x (by decide)) ?_
    rw [show (2 : Rat) = vq 2 1 by decide, vq_mul]
    exact Rat.le_refl
  obtain ⟨r1, r2, -⟩ := r
  unfold vR at h4
  rw [vq_le (by omega) (by decide)] at h4
  simp only [ratioOK, Bool.and_eq_true, decide_eq_true_eq]
  omega
theorem dn_le {x y : Int} {a b : Ratio} (hx : 0 ≤ x) (hxy : x ≤ y) (ha : 1 ≤ a.n ∧ 1 ≤ a.d) (hb : 1 ≤ b.n ∧ 1 ≤ b.d) (h : vR a ≤ vR b) : dnF x a ≤ dnF y b := by
  unfold vR at h
  rw [vq_le (by omega) (by omega)] at h
  unfold dnF
  rw [Int.le_ediv_iff_mul_le (by omega)]
  have k1 := Int.ediv_mul_le (x * a.n) (show a.d ≠ 0 by omega)
  generalize x * a.n / a.d = k at *
  have h1 : k * a.d * b.d ≤ x * a.n * b.d := Int.mul_le_mul_of_nonneg_right k1 (by omega)
  have h2 : x * (a.n * b.d) ≤ x * (b.n * a.d) := Int.mul_le_mul_of_nonneg_left h hx
  have h3 : x * (b.n * a.d) ≤ y * (b.n * a.d) := Int.mul_le_mul_of_nonneg_right hxy (Int.mul_nonneg (by omega) (by omega))
  have h4 : (k * b.d) * a.d ≤ (y * b.n) * a.d := by
    calc (k * b.d) * a.d = k * a.d * b.d := by rw [Int.mul_assoc, Int.mul_comm b.d, ← Int.mul_assoc]
      _ ≤ x * a.n * b.d := h1
      _ = x * (a.n * b.d) := Int.mul_assoc _ _ _
      _ ≤ y * (b.n * a.d) := Int.le_trans h2 h3
      _ = (y * b.n) * a.d := (Int.mul_assoc _ _ _).symm
  exact Int.le_of_mul_le_mul_right h4 (by omega)
theorem up_iff {x k : Int} {r : Ratio} (hd : 1 ≤ r.d) : upR x r ≤ k ↔ x * r.n ≤ k * r.d := by
  unfold upR
  have e := Int.mul_ediv_add_emod (x * r.n) r.d
  have e0 := Int.emod_nonneg (x * r.n) (show r.d ≠ 0 by omega)
  have e1 := Int.emod_lt_of_pos (x * r.n) (show 0 < r.d by omega)
  generalize x * r.n = m at *
  generalize hq : m / r.d = q at *
  generalize hr : m % r.d = s at *
  split
  · rename_i h0
    constructor
    · intro h
      have := Int.mul_le_mul_of_nonneg_right h (show 0 ≤ r.d by omega)
      rw [Int.mul_comm q] at this
      omega
    · intro h
      refine Int.le_of_mul_le_mul_right ?_ (show 0 < r.d by omega)
      rw [Int.mul_comm q]
      omega
  · rename_i h0
    constructor
    · intro h
      have := Int.mul_le_mul_of_nonneg_right h (show 0 ≤ r.d by omega)
      rw [Int.add_mul, Int.mul_comm q] at this
      omega
    · intro h
      have : q * r.d < k * r.d := by rw [Int.mul_comm q]; omega
      have := Int.lt_of_mul_lt_mul_right this (by omega)
      omega
theorem up_le {x y : Int} {a b : Ratio} (hx : 0 ≤ x) (hxy : x ≤ y) (ha : 1 ≤ a.n ∧ 1 ≤ a.d) (hb : 1 ≤ b.n ∧ 1 ≤ b.d) (h : vR a ≤ vR b) : upR x a ≤ upR y b := by
  unfold vR at h
  rw [vq_le (by omega) (by omega)] at h
  rw [up_iff ha.2]
  have k1 := (up_iff (x := y) (k := upR y b) hb.2).1 (Int.le_refl _)
  generalize upR y b = k at *
  have h1 : y * b.n * a.d ≤ k * b.d * a.d := Int.mul_le_mul_of_nonneg_right k1 (by omega)
  have h2 : x * (a.n * b.d) ≤ x * (b.n * a.d) := Int.mul_le_mul_of_nonneg_left h hx
  have h3 : x * (b.n * a.d) ≤ y * (b.n * a.d) := Int.mul_le_mul_of_nonneg_right hxy (Int.mul_nonneg (by omega) (by omega))
  have h4 : (x * a.n) * b.d ≤ (k * a.d) * b.d := by
    calc (x * a.n) * b.d = x * (a.n * b.d) := Int.mul_assoc _ _ _
      _ ≤ y * (b.n * a.d) := Int.le_trans h2 h3
      _ = y * b.n * a.d := (Int.mul_assoc _ _ _).symm
      _ ≤ k * b.d * a.d := h1
      _ = (k * a.d) * b.d := by rw [Int.mul_assoc, Int.mul_comm b.d, ← Int.mul_assoc]
  exact Int.le_of_mul_le_mul_right h4 (by omega)
theorem good_pos {r : Ratio} (h : goodQ r) : 1 ≤ r.n ∧ 1 ≤ r.d := ⟨h.1.1, h.1.2.1⟩
theorem out_mono {x y : Span} {a a' b b' : Ratio} (h1 : 0 ≤ x.lo) (h2 : x.lo ≤ y.lo) (h3 : 0 ≤ y.hi) (h4 : y.hi ≤ x.hi) (ga : goodQ a) (ga' : goodQ a') (gb : goodQ b) (gb' : goodQ b') (ha : vR a ≤ vR a') (hb : vR b' ≤ vR b) :
    (outF x a b).lo ≤ (outF y a' b').lo ∧ (outF y a' b').hi ≤ (outF x a b).hi ∧ 0 ≤ (outF x a b).lo ∧ 0 ≤ (outF y a' b').hi :=
  ⟨dn_le h1 h2 (good_pos ga) (good_pos ga') ha, up_le h3 h4 (good_pos gb') (good_pos gb) hb, (mul_le2 h1 ga (Int.le_refl _)).2.2.1, (up_le2 h3 gb').1⟩
theorem len_mono {q p : Paper} (h : SubP q p) (hok : zt p = true) {ax : Int} (hc : clashA p ax = none) {i : Nat} (hi : (i : Int) < p.sheets) {x y : Span} (h1 : 0 ≤ x.lo) (h2 : x.lo ≤ y.lo) (h3 : 0 ≤ y.hi) (h4 : y.hi ≤ x.hi) :
    (lenF q i ax x).lo ≤ (lenF p i ax y).lo ∧ (lenF p i ax y).hi ≤ (lenF q i ax x).hi ∧ 0 ≤ (lenF q i ax x).lo ∧ 0 ≤ (lenF p i ax y).hi := by
  have hsh := h.1
  have hokq := sub_ok h hok
  have hcq := clash_sub h hok hc
  have g1 := hi_good hokq hcq (i := i) (by omega)
  have g2 := hi_good hok hc (i := i) hi
  have g3 := lo_good hokq hcq (i := i) (by omega)
  have g4 := lo_good hok hc (i := i) hi
  refine out_mono h1 h2 h3 h4 (goodQ_inv g1) (goodQ_inv g2) (goodQ_inv g3) (goodQ_inv g4) ?_ ?_
  · exact inv_mono (good_pos g2) (good_pos g1) (hi_mono h hok hi)
  · exact inv_mono (good_pos g3) (good_pos g4) (lo_mono h hok hi)
theorem rests_any {p : Paper} {s ax : Int} {r : Reason} (hk : zu p ax [s] = 0) (hr : (reasF p).any (eqW r) = true) : (restsP p s ax).any (eqW r) = chg (bdF p s ax) (bdF (zP p r) s ax) := by
  unfold restsP
  rw [if_pos hk, List.any_filter]
  have eq_of : ∀ w, eqW r w = true → w = r := by
    intro w h
    obtain ⟨a, b, c⟩ := r
    obtain ⟨a', b', c'⟩ := w
    simp [eqW] at h
    obtain ⟨rfl, rfl, rfl⟩ := h
    rfl
  rw [Bool.eq_iff_iff, List.any_eq_true]
  constructor
  · rintro ⟨w, -, h2⟩
    simp only [Bool.and_eq_true] at h2
    have := eq_of w h2.2
    subst this
    exact h2.1
  · intro h
    obtain ⟨w, w1, w2⟩ := List.any_eq_true.1 hr
    have := eq_of w w2
    subst this
    exact ⟨w, w1, by simp [h, w2]⟩
/-- A paper with one more mark, or join. -/
def zE (p : Paper) (b : Bool) (m : Mark) (j : Join) : Paper := if b then ⟨p.sheets, p.nm, p.marks, false, p.joins ++ [j]⟩ else ⟨p.sheets, false, p.marks ++ [m], p.nj, p.joins⟩
theorem more_sub (p : Paper) (b : Bool) (m : Mark) (j : Join) : SubP p (zE p b m j) := by
  unfold zE
  cases b with
  | true => exact ⟨rfl, fun _ h => h, fun _ h => List.mem_append_left _ h, Nat.le_refl _, by simp⟩
  | false => exact ⟨rfl, fun _ h => List.mem_append_left _ h, fun _ h => h, by simp, Nat.le_refl _⟩
theorem more_wf {p : Paper} (b : Bool) (m : Mark) (j : Join) (hwf : p.wf) (h1 : p.marks.length ≤ 1000) (h2 : p.joins.length ≤ 1000) : (zE p b m j).wf := by
  obtain ⟨w1, w2, w3, w4⟩ := hwf
  unfold zE
  cases b with
  | true =>
    refine ⟨w1, ?_, w3, ?_⟩
    · intro h; exact absurd (show false = true from h) (by decide)
    · show (p.joins ++ [j]).length ≤ _
      simp; omega
  | false =>
    refine ⟨?_, w2, ?_, w4⟩
    · intro h; exact absurd (show false = true from h) (by decide)
    · show (p.marks ++ [m]).length ≤ _
      simp; omega
end Go.VS
namespace Go.VS
open Go Go.Proofs
set_option maxHeartbeats 0
set_option linter.unusedSimpArgs false

theorem t51 (a b : Ratio) : (lim cfg).pure 51 [.agg [I a.n, I a.d], .agg [I b.n, I b.d]] = some (I (orderF a b)) := by
  have h26 := t26 a b
  simp only [encR] at h26
  unfold orderF
  cases h : ratioOK a && ratioOK b with
  | false =>
    rw [h] at h26
    simp only [Bool.false_eq_true, if_false] at h26 ⊢
    refine zp (zk 51) cfn51 rfl (n := 16) rfl ?_
    simp only [bW, if_true, Nat.reduceEqDiff, if_false, zi]
    repeat' first | (intro hb; first | cases hb | skip) | ((first | apply z6 | apply zc); (· rfl); (· simp (disch := assumption) only [go_sem, Nat.reduceEqDiff, Nat.reduceAdd, bP, zd, Nat.reduceLeDiff, Nat.reduceLT, Nat.reduceMul, List.length_append, decide_eq_true_eq, z7, z0, Int.reduceToNat, Int.reduceLE, Int.reduceLT, Int.reduceBNe, Int.reduceBEq, h26]; rfl); (· simp only [go_sem, Nat.reduceLT, Nat.reduceEqDiff]; rfl); (· rfl); first | (apply zb; (· simp only [go_sem, Nat.reduceLT]; rfl); (· simp only [go_sem, Nat.reduceLT]; rfl)) | (apply zf; (· simp only [go_sem, Nat.reduceLT]; rfl))) | ((first | apply z9 | apply za); (· rfl); (· simp only [go_sem, Nat.reduceLT]; rfl)) | (apply z8; (· simp only [go_sem, Nat.reduceEqDiff])) | (apply z5; (· simp only [go_sem, Nat.reduceEqDiff])) | (apply ze; (· kernel_rfl); (· kernel_rfl)) | (simp only [bW, if_true, Nat.reduceEqDiff, if_false])
    all_goals try simp only [go_sem, Nat.reduceEqDiff, bP, Nat.reduceAdd, Nat.reduceLeDiff, List.length_map, Tryd.f51]
    all_goals first | done | rfl | (simp_all []; done) | trace_state
  | true =>
    rw [h] at h26
    simp only [if_true] at h26 ⊢
    refine zp (zk 51) cfn51 rfl (n := 16) rfl ?_
    simp only [bW, if_true, Nat.reduceEqDiff, if_false, zi]
    repeat' first | (intro hb; first | cases hb | skip) | ((first | apply z6 | apply zc); (· rfl); (· simp (disch := assumption) only [go_sem, Nat.reduceEqDiff, Nat.reduceAdd, bP, zd, Nat.reduceLeDiff, Nat.reduceLT, Nat.reduceMul, List.length_append, decide_eq_true_eq, z7, z0, Int.reduceToNat, Int.reduceLE, Int.reduceLT, Int.reduceBNe, Int.reduceBEq, h26, bne_self_eq_false]; rfl); (· simp only [go_sem, Nat.reduceLT, Nat.reduceEqDiff]; rfl); (· rfl); first | (apply zb; (· simp only [go_sem, Nat.reduceLT]; rfl); (· simp only [go_sem, Nat.reduceLT]; rfl)) | (apply zf; (· simp only [go_sem, Nat.reduceLT]; rfl))) | ((first | apply z9 | apply za); (· rfl); (· simp only [go_sem, Nat.reduceLT]; rfl)) | (apply z8; (· simp only [go_sem, Nat.reduceEqDiff])) | (apply z5; (· simp only [go_sem, Nat.reduceEqDiff])) | (apply ze; (· kernel_rfl); (· kernel_rfl)) | (simp only [bW, if_true, Nat.reduceEqDiff, if_false])
    all_goals try simp only [go_sem, Nat.reduceEqDiff, bP, Nat.reduceAdd, Nat.reduceLeDiff, List.length_map, Tryd.f51]
    all_goals first | done | rfl | (simp_all []; done) | trace_state

end Go.VS
namespace Go.VS
open Go Go.Proofs
set_option maxHeartbeats 0
set_option linter.unusedSimpArgs false

set_option maxRecDepth 10000
theorem oget_ins2 {k j : Nat} {v : Ob} {l : List (Nat × Ob)} : zH (oins k v l) j = bif eqb k j then some v else zH l j := by
  rw [oget_oins, eqb_dec]
  by_cases h : j = k
  · subst h; simp
  · rw [if_neg h, decide_eq_false (fun e => h e.symm)]; rfl
def opsOf (c : Code) : Array Oper := match c with | .region _ ops _ => ops | _ => #[]
noncomputable def c25 : Code := zB [1, 1, 1, 1, 1, 1, 1, 1] (zo Tryd.f13)
noncomputable def o25 : Array Oper := opsOf (zB [0] c25)
noncomputable def r25 : Code := zB [1] c25
theorem S25 {F : Exit → St → Option D} (p : Paper) (r : Reason) (s ax : Int) (l h : Ratio) (hwf : p.wf) (hk : zu p ax [s] = 0) (hl : l = loF p s ax) (hh : h = hiF p s ax) (hret : ∀ st, get st.tmps 18 = B true → F .ret st = some (B true)) (hnor : ∀ st, get st.tmps 18 = B true → F .normal st = some (B true)) (tms : List (Nat × D)) (O : List (Nat × Ob)) (N : Nat) (hN : 7 ≤ N)
    (g4 : get tms 4 = I s) (g6 : get tms 6 = I ax) (g9 : get tms 9 = .lref 0 0 3 0) (g17 : get tms 17 = .lref 4 0 3 0) (g19 : get tms 19 = .lref 5 0 2 0) (g20 : get tms 20 = .lref 6 0 2 0) (g257 : get tms 257 = .agg [I p.sheets, .sl p.nm (p.marks.map zm) (zs p.nm 5) none, .sl p.nj (p.joins.map zj) (zs p.nj 7) none]) (g258 : get tms 258 = .agg [B r.join, I r.at_, B r.back])
    (o0 : zH O 0 = some ⟨[zh p], 3, false⟩) (o4 : zH O 4 = some ⟨[.agg [B r.join, I r.at_, B r.back]], 3, false⟩) (o5 : zH O 5 = some ⟨[.agg [I l.n, I l.d]], 2, false⟩) (o6 : zH O 6 = some ⟨[.agg [I h.n, I h.d]], 2, false⟩) :
    EvU cfg (lim cfg) 13 F o25 (o25.toList.drop 2) [.code r25] ⟨305, tms, O, N, 0⟩ = some (B true) := by
  obtain ⟨k1, k2, k3, k4⟩ := known_zero.1 hk
  have h52 := t52 p r hwf
  have h54 := t54 p s ax hwf
  rw [hk] at h54
  have hch := check_zero.2 k1
  have n0 : ((N = 0) = False) := by simp; try omega
  have n1 : ((N = 4) = False) := by simp; try omega
  have n2 : ((N = 5) = False) := by simp; try omega
  have n3 : ((N = 6) = False) := by simp; try omega
  have n4 : (((N + 1) = 0) = False) := by simp; try omega
  have n5 : (((N + 1) = 4) = False) := by simp; try omega
  have n6 : (((N + 1) = 5) = False) := by simp; try omega
  have n7 : (((N + 1) = 6) = False) := by simp; try omega
  have n8 : (((N + 1 + 1) = 0) = False) := by simp; try omega
  have n9 : (((N + 1 + 1) = 4) = False) := by simp; try omega
  have n10 : (((N + 1 + 1) = 5) = False) := by simp; try omega
  have n11 : (((N + 1 + 1) = 6) = False) := by simp; try omega
  have n12 : ((N = (N + 1)) = False) := by simp; try omega
  have n13 : ((N = (N + 1 + 1)) = False) := by simp; try omega
  have n14 : (((N + 1) = N) = False) := by simp; try omega
  have n15 : (((N + 1) = (N + 1 + 1)) = False) := by simp; try omega
  have n16 : (((N + 1 + 1) = N) = False) := by simp; try omega
  have n17 : (((N + 1 + 1) = (N + 1)) = False) := by simp; try omega
  cases hr : (reasF p).any (eqW r) with
  | false =>
    have hE : withoutE p r = 1 := by unfold withoutE; rw [if_pos hch, hr]; rfl
    have hP : withoutP p r = zeroP := by unfold withoutP; rw [hE]; rfl
    rw [hE, hP] at h52
    rw [gS_W] at h54
    generalize (restsP p s ax).isEmpty = nE at h54
    have h20 : True := trivial
    have h61 : True := trivial
    dsimp only [o25, r25, c25, opsOf, zB, zo, Tryd.f13, List.drop]
    repeat' first | (intro hb; first | cases hb | skip) | ((first | apply z6 | apply zc); (· rfl); (· simp (disch := assumption) only [go_sem, Nat.reduceEqDiff, Nat.reduceAdd, bP, zd, Nat.reduceLeDiff, Nat.reduceLT, Nat.reduceMul, List.length_append, decide_eq_true_eq, z7, z0, Int.reduceToNat, Int.reduceLE, Int.reduceLT, Int.reduceBNe, Int.reduceBEq, g4, g6, g9, g17, g19, g20, g257, g258, o0, o4, o5, o6, oget_ins2, eq_self, n0, n1, n2, n3, n4, n5, n6, n7, n8, n9, n10, n11, n12, n13, n14, n15, n16, n17, h52, h54, h20, h61, bne_self_eq_false, beq_self_eq_true]; rfl); (· simp only [go_sem, Nat.reduceLT, Nat.reduceEqDiff]; rfl); (· rfl); first | (apply zb; (· simp only [go_sem, Nat.reduceLT]; rfl); (· simp only [go_sem, Nat.reduceLT]; rfl)) | (apply zf; (· simp only [go_sem, Nat.reduceLT]; rfl))) | ((first | apply z9 | apply za); (· rfl); (· simp only [go_sem, Nat.reduceLT]; rfl)) | (apply z8; (· simp only [go_sem, Nat.reduceEqDiff])) | (apply z5; (· simp only [go_sem, Nat.reduceEqDiff])) | (apply ze; (· kernel_rfl); (· kernel_rfl)) | (simp only [bW, if_true, Nat.reduceEqDiff, if_false])
    all_goals first | exact hret _ rfl | exact hnor _ rfl | trace_state
  | true =>
    have hE : withoutE p r = 0 := by unfold withoutE; rw [if_pos hch, hr]; rfl
    have hP : withoutP p r = zP p r := by unfold withoutP; rw [hE]; rfl
    rw [hE, hP] at h52
    have hsub := without_sub p r
    have hkq : zu (zP p r) ax [s] = 0 := by
      refine known_zero.2 ⟨sub_ok hsub k1, poss_sub hsub k1 k2, ?_, k4⟩
      simp only [List.all_cons, List.all_nil, Bool.and_true] at k3 ⊢
      unfold zA at k3 ⊢
      rw [hsub.1]
      exact k3
    have h20 := t20 (zP p r) s ax (without_wf r hwf)
    rw [if_pos hkq] at h20
    have hrl : (restsP p s ax).length ≤ 1000000 := by
      unfold restsP
      rw [if_pos hk]
      obtain ⟨-, -, o5, o6, -, -⟩ := zJ k1
      refine Nat.le_trans (List.length_filter_le _ _) ?_
      rw [reas_len]; omega
    have h61 := t61 r (restsP p s ax) hrl
    rw [rests_any hk hr] at h61
    rw [gS_W] at h54 h61
    generalize (restsP p s ax).isEmpty = nE at h54 h61
    unfold chg bdF at h61
    rw [← hl, ← hh] at h61
    simp only [] at h61
    generalize loF (zP p r) s ax = l' at *
    generalize hiF (zP p r) s ax = h' at *
    generalize zP p r = q at *
    generalize restsP p s ax = R at *
    dsimp only [o25, r25, c25, opsOf, zB, zo, Tryd.f13, List.drop]
    cases c1 : (l'.n == l.n) <;> cases c2 : (l'.d == l.d) <;> cases c3 : (h'.n == h.n) <;> cases c4 : (h'.d == h.d)
    all_goals simp only [go_sem, c1, c2, c3, c4] at h61
    all_goals
      repeat' first | (intro hb; first | cases hb | skip) | ((first | apply z6 | apply zc); (· rfl); (· simp (disch := assumption) only [go_sem, Nat.reduceEqDiff, Nat.reduceAdd, bP, zd, Nat.reduceLeDiff, Nat.reduceLT, Nat.reduceMul, List.length_append, decide_eq_true_eq, z7, z0, Int.reduceToNat, Int.reduceLE, Int.reduceLT, Int.reduceBNe, Int.reduceBEq, g4, g6, g9, g17, g19, g20, g257, g258, o0, o4, o5, o6, oget_ins2, eq_self, n0, n1, n2, n3, n4, n5, n6, n7, n8, n9, n10, n11, n12, n13, n14, n15, n16, n17, h52, h54, h20, h61, bne_self_eq_false, beq_self_eq_true, c1, c2, c3, c4]; rfl); (· simp only [go_sem, Nat.reduceLT, Nat.reduceEqDiff]; rfl); (· rfl); first | (apply zb; (· simp only [go_sem, Nat.reduceLT]; rfl); (· simp only [go_sem, Nat.reduceLT]; rfl)) | (apply zf; (· simp only [go_sem, Nat.reduceLT]; rfl))) | ((first | apply z9 | apply za); (· rfl); (· simp only [go_sem, Nat.reduceLT]; rfl)) | (apply z8; (· simp only [go_sem, Nat.reduceEqDiff])) | (apply z5; (· simp only [go_sem, Nat.reduceEqDiff])) | (apply ze; (· kernel_rfl); (· kernel_rfl)) | (simp only [bW, if_true, Nat.reduceEqDiff, if_false])
    all_goals first | exact hret _ rfl | exact hnor _ rfl | trace_state

end Go.VS
namespace Go.VS
open Go Go.Proofs
set_option maxHeartbeats 0
set_option linter.unusedSimpArgs false

set_option maxRecDepth 10000
theorem i58_7 (m : Mark) (r : List Mark) (hl : r.length + 1 ≤ 100000) : (lim cfg).inl 58 [.sl false ((m :: r).map zm) 5 none] [] 7 = some (.lsl 8 0 (r.length + 1) 5 none, [(7, ⟨[], 5, false⟩), (8, ⟨(m :: r).map zm, 5, false⟩)], 9) := by
  have hb1 : ((r.length + 1) * 40 ≤ big) = True := by simp [big]; omega
  have hb2 : (r.length + 1 ≤ big) = True := by simp [big]; omega
  have hok := zy.allOk r
  refine w_inl (cfg_xinl 58) cfn58 rfl (n := 8) rfl ?_
  generalize hF : finF cfg Tryd.f58 = F
  simp only [bW, if_true, Nat.reduceEqDiff, if_false, zi, zm, List.map_cons]
  repeat' first | (intro hb; first | cases hb | skip) | ((first | apply z6 | apply zc); (· rfl); (· simp (disch := assumption) only [go_sem, Nat.reduceEqDiff, Nat.reduceAdd, bP, zd, Nat.reduceLeDiff, Nat.reduceLT, Nat.reduceMul, List.length_append, decide_eq_true_eq, z7, z0, Int.reduceToNat, Int.reduceLE, Int.reduceLT, Int.reduceBNe, Int.reduceBEq, hb1, hb2, hok, List.length_map, Nat.zero_lt_succ, Nat.sub_self]; rfl); (· simp only [go_sem, Nat.reduceLT, Nat.reduceEqDiff]; rfl); (· rfl); first | (apply zb; (· simp only [go_sem, Nat.reduceLT]; rfl); (· simp only [go_sem, Nat.reduceLT]; rfl)) | (apply zf; (· simp only [go_sem, Nat.reduceLT]; rfl))) | ((first | apply z9 | apply za); (· rfl); (· simp only [go_sem, Nat.reduceLT]; rfl)) | (apply z8; (· simp only [go_sem, Nat.reduceEqDiff])) | (apply z5; (· simp only [go_sem, Nat.reduceEqDiff])) | (apply ze; (· kernel_rfl); (· kernel_rfl)) | (simp only [bW, if_true, Nat.reduceEqDiff, if_false])
  subst hF
  rfl

theorem i59_7 (m : Join) (r : List Join) (hl : r.length + 1 ≤ 100000) : (lim cfg).inl 59 [.sl false ((m :: r).map zj) 7 none] [] 7 = some (.lsl 8 0 (r.length + 1) 7 none, [(7, ⟨[], 7, false⟩), (8, ⟨(m :: r).map zj, 7, false⟩)], 9) := by
  have hb1 : ((r.length + 1) * 56 ≤ big) = True := by simp [big]; omega
  have hb2 : (r.length + 1 ≤ big) = True := by simp [big]; omega
  have hok := zx.allOk r
  refine w_inl (cfg_xinl 59) cfn59 rfl (n := 8) rfl ?_
  generalize hF : finF cfg Tryd.f59 = F
  simp only [bW, if_true, Nat.reduceEqDiff, if_false, zi, zj, List.map_cons]
  repeat' first | (intro hb; first | cases hb | skip) | ((first | apply z6 | apply zc); (· rfl); (· simp (disch := assumption) only [go_sem, Nat.reduceEqDiff, Nat.reduceAdd, bP, zd, Nat.reduceLeDiff, Nat.reduceLT, Nat.reduceMul, List.length_append, decide_eq_true_eq, z7, z0, Int.reduceToNat, Int.reduceLE, Int.reduceLT, Int.reduceBNe, Int.reduceBEq, hb1, hb2, hok, List.length_map, Nat.zero_lt_succ, Nat.sub_self]; rfl); (· simp only [go_sem, Nat.reduceLT, Nat.reduceEqDiff]; rfl); (· rfl); first | (apply zb; (· simp only [go_sem, Nat.reduceLT]; rfl); (· simp only [go_sem, Nat.reduceLT]; rfl)) | (apply zf; (· simp only [go_sem, Nat.reduceLT]; rfl))) | ((first | apply z9 | apply za); (· rfl); (· simp only [go_sem, Nat.reduceLT]; rfl)) | (apply z8; (· simp only [go_sem, Nat.reduceEqDiff])) | (apply z5; (· simp only [go_sem, Nat.reduceEqDiff])) | (apply ze; (· kernel_rfl); (· kernel_rfl)) | (simp only [bW, if_true, Nat.reduceEqDiff, if_false])
  subst hF
  rfl

theorem i59_8 (m : Join) (r : List Join) (hl : r.length + 1 ≤ 100000) : (lim cfg).inl 59 [.sl false ((m :: r).map zj) 7 none] [] 8 = some (.lsl 9 0 (r.length + 1) 7 none, [(8, ⟨[], 7, false⟩), (9, ⟨(m :: r).map zj, 7, false⟩)], 10) := by
  have hb1 : ((r.length + 1) * 56 ≤ big) = True := by simp [big]; omega
  have hb2 : (r.length + 1 ≤ big) = True := by simp [big]; omega
  have hok := zx.allOk r
  refine w_inl (cfg_xinl 59) cfn59 rfl (n := 8) rfl ?_
  generalize hF : finF cfg Tryd.f59 = F
  simp only [bW, if_true, Nat.reduceEqDiff, if_false, zi, zj, List.map_cons]
  repeat' first | (intro hb; first | cases hb | skip) | ((first | apply z6 | apply zc); (· rfl); (· simp (disch := assumption) only [go_sem, Nat.reduceEqDiff, Nat.reduceAdd, bP, zd, Nat.reduceLeDiff, Nat.reduceLT, Nat.reduceMul, List.length_append, decide_eq_true_eq, z7, z0, Int.reduceToNat, Int.reduceLE, Int.reduceLT, Int.reduceBNe, Int.reduceBEq, hb1, hb2, hok, List.length_map, Nat.zero_lt_succ, Nat.sub_self]; rfl); (· simp only [go_sem, Nat.reduceLT, Nat.reduceEqDiff]; rfl); (· rfl); first | (apply zb; (· simp only [go_sem, Nat.reduceLT]; rfl); (· simp only [go_sem, Nat.reduceLT]; rfl)) | (apply zf; (· simp only [go_sem, Nat.reduceLT]; rfl))) | ((first | apply z9 | apply za); (· rfl); (· simp only [go_sem, Nat.reduceLT]; rfl)) | (apply z8; (· simp only [go_sem, Nat.reduceEqDiff])) | (apply z5; (· simp only [go_sem, Nat.reduceEqDiff])) | (apply ze; (· kernel_rfl); (· kernel_rfl)) | (simp only [bW, if_true, Nat.reduceEqDiff, if_false])
  subst hF
  rfl

theorem i59_9 (m : Join) (r : List Join) (hl : r.length + 1 ≤ 100000) : (lim cfg).inl 59 [.sl false ((m :: r).map zj) 7 none] [] 9 = some (.lsl 10 0 (r.length + 1) 7 none, [(9, ⟨[], 7, false⟩), (10, ⟨(m :: r).map zj, 7, false⟩)], 11) := by
  have hb1 : ((r.length + 1) * 56 ≤ big) = True := by simp [big]; omega
  have hb2 : (r.length + 1 ≤ big) = True := by simp [big]; omega
  have hok := zx.allOk r
  refine w_inl (cfg_xinl 59) cfn59 rfl (n := 8) rfl ?_
  generalize hF : finF cfg Tryd.f59 = F
  simp only [bW, if_true, Nat.reduceEqDiff, if_false, zi, zj, List.map_cons]
  repeat' first | (intro hb; first | cases hb | skip) | ((first | apply z6 | apply zc); (· rfl); (· simp (disch := assumption) only [go_sem, Nat.reduceEqDiff, Nat.reduceAdd, bP, zd, Nat.reduceLeDiff, Nat.reduceLT, Nat.reduceMul, List.length_append, decide_eq_true_eq, z7, z0, Int.reduceToNat, Int.reduceLE, Int.reduceLT, Int.reduceBNe, Int.reduceBEq, hb1, hb2, hok, List.length_map, Nat.zero_lt_succ, Nat.sub_self]; rfl); (· simp only [go_sem, Nat.reduceLT, Nat.reduceEqDiff]; rfl); (· rfl); first | (apply zb; (· simp only [go_sem, Nat.reduceLT]; rfl); (· simp only [go_sem, Nat.reduceLT]; rfl)) | (apply zf; (· simp only [go_sem, Nat.reduceLT]; rfl))) | ((first | apply z9 | apply za); (· rfl); (· simp only [go_sem, Nat.reduceLT]; rfl)) | (apply z8; (· simp only [go_sem, Nat.reduceEqDiff])) | (apply z5; (· simp only [go_sem, Nat.reduceEqDiff])) | (apply ze; (· kernel_rfl); (· kernel_rfl)) | (simp only [bW, if_true, Nat.reduceEqDiff, if_false])
  subst hF
  rfl

theorem n58_7 : (lim cfg).inl 58 [.sl true [] 0 none] [] 7 = some (.sl true [] 0 none, [], 7) ∧ (lim cfg).inl 58 [.sl false [] 5 none] [] 7 = some (.lsl 7 0 0 5 (some 0), [(7, ⟨[], 5, false⟩)], 8) := ⟨lim_inl.2 ⟨30, by kernel_rfl⟩, lim_inl.2 ⟨30, by kernel_rfl⟩⟩
theorem n59_7 : (lim cfg).inl 59 [.sl true [] 0 none] [] 7 = some (.sl true [] 0 none, [], 7) ∧ (lim cfg).inl 59 [.sl false [] 7 none] [] 7 = some (.lsl 7 0 0 7 (some 0), [(7, ⟨[], 7, false⟩)], 8) := ⟨lim_inl.2 ⟨30, by kernel_rfl⟩, lim_inl.2 ⟨30, by kernel_rfl⟩⟩
theorem n59_8 : (lim cfg).inl 59 [.sl true [] 0 none] [] 8 = some (.sl true [] 0 none, [], 8) ∧ (lim cfg).inl 59 [.sl false [] 7 none] [] 8 = some (.lsl 8 0 0 7 (some 0), [(8, ⟨[], 7, false⟩)], 9) := ⟨lim_inl.2 ⟨30, by kernel_rfl⟩, lim_inl.2 ⟨30, by kernel_rfl⟩⟩
theorem n59_9 : (lim cfg).inl 59 [.sl true [] 0 none] [] 9 = some (.sl true [] 0 none, [], 9) ∧ (lim cfg).inl 59 [.sl false [] 7 none] [] 9 = some (.lsl 9 0 0 7 (some 0), [(9, ⟨[], 7, false⟩)], 10) := ⟨lim_inl.2 ⟨30, by kernel_rfl⟩, lim_inl.2 ⟨30, by kernel_rfl⟩⟩
noncomputable def c5c : Code := zB [1, 1, 1] (zo Tryd.f13)
noncomputable def o5c : Array Oper := opsOf (zB [0] c5c)
noncomputable def r5c : Code := zB [1] c5c

end Go.VS
namespace Go.VS
open Go Go.Proofs
set_option maxHeartbeats 0
set_option linter.unusedSimpArgs false

set_option maxRecDepth 10000
theorem S5mnnx {F : Exit → St → Option D} (p : Paper) (m : Mark) (j : Join) (s t ax : Int) (sp : Span) (r : Reason) (l h : Ratio) (e : Int) (hwf : p.wf) (hk : zu p ax [s] = 0) (hl : l = loF p s ax) (hh : h = hiF p s ax) (hm1 : p.marks.length ≤ 1000) (hj1 : p.joins.length ≤ 1000) (hret : ∀ st, get st.tmps 18 = B true → F .ret st = some (B true)) (hnor : ∀ st, get st.tmps 18 = B true → F .normal st = some (B true)) (h20 : (lim cfg).pure 20 [zh p, I s, I ax] = some (.tup [.agg [I l.n, I l.d], .agg [I h.n, I h.d], I 0]))
    (q1 : (lim cfg).inl 58 [.sl p.nm (p.marks.map zm) (zs p.nm 5) none] [] 7 = some (.sl true [] 0 none, [], 7)) (q2 : (lim cfg).inl 59 [.sl p.nj (p.joins.map zj) (zs p.nj 7) none] [] 7 = some (.sl true [] 0 none, [], 7)) (h30 : (lim cfg).pure 30 [.agg [I p.sheets, .sl false [.agg [I m.sheet, I m.axis, I m.tru, I m.seen, I m.err]] 5 none, .sl true [] 0 none]] = some (.tup [B false, I e])) (tms : List (Nat × D)) (g3 : get tms 3 = B false) (g4 : get tms 4 = I s) (g5 : get tms 5 = I t) (g6 : get tms 6 = I ax) (g9 : get tms 9 = .lref 0 0 3 0) (g10 : get tms 10 = .lref 1 0 5 0) (g11 : get tms 11 = .lref 2 0 7 0) (g16 : get tms 16 = .lref 3 0 2 0) (g17 : get tms 17 = .lref 4 0 3 0) (g105 : get tms 105 = .agg [I p.sheets, .sl p.nm (p.marks.map zm) (zs p.nm 5) none, .sl p.nj (p.joins.map zj) (zs p.nj 7) none]) (g106 : get tms 106 = I s) (g107 : get tms 107 = I ax) :
    EvU cfg (lim cfg) 13 F o5c (o5c.toList.drop 3) [.code r5c] ⟨305, tms, [(0, ⟨[zh p], 3, false⟩), (1, ⟨[.agg [I m.sheet, I m.axis, I m.tru, I m.seen, I m.err]], 5, false⟩), (2, ⟨[.agg [I j.a, I j.b, I j.axis, I j.seenA, I j.errA, I j.seenB, I j.errB]], 7, false⟩), (3, ⟨[.agg [I sp.lo, I sp.hi]], 2, false⟩), (4, ⟨[.agg [B r.join, I r.at_, B r.back]], 3, false⟩)], 5, 0⟩ = some (B true) := by
  dsimp only [o5c, r5c, c5c, opsOf, zB, zo, Tryd.f13, List.drop]
  repeat' first | (intro hb; first | cases hb | skip) | ((first | apply z6 | apply zc); (· rfl); (· simp (disch := assumption) only [go_sem, Nat.reduceEqDiff, Nat.reduceAdd, bP, zd, Nat.reduceLeDiff, Nat.reduceLT, Nat.reduceMul, List.length_append, decide_eq_true_eq, z7, z0, Int.reduceToNat, Int.reduceLE, Int.reduceLT, Int.reduceBNe, Int.reduceBEq, g3, g4, g5, g6, g9, g10, g11, g16, g17, g105, g106, g107, zG, zz, only, keysO, zU, bI, ck58, ck59, q1, q2, h20, h30, bne_self_eq_false, beq_self_eq_true, zy.snapAll, zx.snapAll, zy.ids, zy.idsL, zx.ids, zx.idsL, List.length_map, Nat.zero_lt_succ, ite_self]; rfl); (· simp only [go_sem, Nat.reduceLT, Nat.reduceEqDiff]; rfl); (· rfl); first | (apply zb; (· simp only [go_sem, Nat.reduceLT]; rfl); (· simp only [go_sem, Nat.reduceLT]; rfl)) | (apply zf; (· simp only [go_sem, Nat.reduceLT]; rfl))) | ((first | apply z9 | apply za); (· rfl); (· simp only [go_sem, Nat.reduceLT]; rfl)) | (apply z8; (· simp only [go_sem, Nat.reduceEqDiff])) | (apply z5; (· simp only [go_sem, Nat.reduceEqDiff])) | (apply ze; (· kernel_rfl); (· kernel_rfl)) | (simp only [bW, if_true, Nat.reduceEqDiff, if_false])
  all_goals refine S25 p r s ax l h hwf hk hl hh hret hnor _ _ _ (by decide) ?_ ?_ ?_ ?_ ?_ ?_ ?_ ?_ ?_ ?_ ?_ ?_
  all_goals first | rfl | exact g4 | exact g6 | exact g9 | exact g17 | exact g257 | exact g258

theorem S5mnny {F : Exit → St → Option D} (p : Paper) (m : Mark) (j : Join) (s t ax : Int) (sp : Span) (r : Reason) (l h : Ratio) (lm hm bt bm : Ratio) (o1 o2 o3 : Int) (x1 x2 y1 y2 : Span) (hwf : p.wf) (hk : zu p ax [s] = 0) (hl : l = loF p s ax) (hh : h = hiF p s ax) (hm1 : p.marks.length ≤ 1000) (hj1 : p.joins.length ≤ 1000) (hret : ∀ st, get st.tmps 18 = B true → F .ret st = some (B true)) (hnor : ∀ st, get st.tmps 18 = B true → F .normal st = some (B true)) (h20 : (lim cfg).pure 20 [zh p, I s, I ax] = some (.tup [.agg [I l.n, I l.d], .agg [I h.n, I h.d], I 0]))
    (q1 : (lim cfg).inl 58 [.sl p.nm (p.marks.map zm) (zs p.nm 5) none] [] 7 = some (.sl true [] 0 none, [], 7)) (q2 : (lim cfg).inl 59 [.sl p.nj (p.joins.map zj) (zs p.nj 7) none] [] 7 = some (.sl true [] 0 none, [], 7)) (h30 : (lim cfg).pure 30 [.agg [I p.sheets, .sl false [.agg [I m.sheet, I m.axis, I m.tru, I m.seen, I m.err]] 5 none, .sl true [] 0 none]] = some (.tup [B true, I 0])) (h20m : (lim cfg).pure 20 [.agg [I p.sheets, .sl false [.agg [I m.sheet, I m.axis, I m.tru, I m.seen, I m.err]] 5 none, .sl true [] 0 none], I s, I ax] = some (.tup [.agg [I lm.n, I lm.d], .agg [I hm.n, I hm.d], I 0])) (h19 : (lim cfg).pure 19 [zh p, I s, I t, I ax] = some (.tup [.agg [I bt.n, I bt.d], I 0])) (h19m : (lim cfg).pure 19 [.agg [I p.sheets, .sl false [.agg [I m.sheet, I m.axis, I m.tru, I m.seen, I m.err]] 5 none, .sl true [] 0 none], I s, I t, I ax] = some (.tup [.agg [I bm.n, I bm.d], I 0])) (h51a : (lim cfg).pure 51 [.agg [I lm.n, I lm.d], .agg [I l.n, I l.d]] = some (I o1)) (h51b : (lim cfg).pure 51 [.agg [I hm.n, I hm.d], .agg [I h.n, I h.d]] = some (I o2)) (h51c : (lim cfg).pure 51 [.agg [I bm.n, I bm.d], .agg [I bt.n, I bt.d]] = some (I o3)) (d1 : decide (o1 < 0) = false) (d2 : decide (o2 > 0) = false) (d3 : decide (o3 > 0) = false) (h38 : (lim cfg).pure 38 [zh p, I s, I ax, .agg [I sp.lo, I sp.hi]] = some (.tup [.agg [I x1.lo, I x1.hi], I 0])) (h38m : (lim cfg).pure 38 [.agg [I p.sheets, .sl false [.agg [I m.sheet, I m.axis, I m.tru, I m.seen, I m.err]] 5 none, .sl true [] 0 none], I s, I ax, .agg [I sp.lo, I sp.hi]] = some (.tup [.agg [I x2.lo, I x2.hi], I 0])) (h40 : (lim cfg).pure 40 [zh p, I s, .agg [I sp.lo, I sp.hi]] = some (.tup [.agg [I y1.lo, I y1.hi], I 0])) (h40m : (lim cfg).pure 40 [.agg [I p.sheets, .sl false [.agg [I m.sheet, I m.axis, I m.tru, I m.seen, I m.err]] 5 none, .sl true [] 0 none], I s, .agg [I sp.lo, I sp.hi]] = some (.tup [.agg [I y2.lo, I y2.hi], I 0])) (h60a : (lim cfg).pure 60 [.agg [I x2.lo, I x2.hi], .agg [I x1.lo, I x1.hi]] = some (B true)) (h60b : (lim cfg).pure 60 [.agg [I y2.lo, I y2.hi], .agg [I y1.lo, I y1.hi]] = some (B true)) (tms : List (Nat × D)) (g3 : get tms 3 = B false) (g4 : get tms 4 = I s) (g5 : get tms 5 = I t) (g6 : get tms 6 = I ax) (g9 : get tms 9 = .lref 0 0 3 0) (g10 : get tms 10 = .lref 1 0 5 0) (g11 : get tms 11 = .lref 2 0 7 0) (g16 : get tms 16 = .lref 3 0 2 0) (g17 : get tms 17 = .lref 4 0 3 0) (g105 : get tms 105 = .agg [I p.sheets, .sl p.nm (p.marks.map zm) (zs p.nm 5) none, .sl p.nj (p.joins.map zj) (zs p.nj 7) none]) (g106 : get tms 106 = I s) (g107 : get tms 107 = I ax) :
    EvU cfg (lim cfg) 13 F o5c (o5c.toList.drop 3) [.code r5c] ⟨305, tms, [(0, ⟨[zh p], 3, false⟩), (1, ⟨[.agg [I m.sheet, I m.axis, I m.tru, I m.seen, I m.err]], 5, false⟩), (2, ⟨[.agg [I j.a, I j.b, I j.axis, I j.seenA, I j.errA, I j.seenB, I j.errB]], 7, false⟩), (3, ⟨[.agg [I sp.lo, I sp.hi]], 2, false⟩), (4, ⟨[.agg [B r.join, I r.at_, B r.back]], 3, false⟩)], 5, 0⟩ = some (B true) := by
  dsimp only [o5c, r5c, c5c, opsOf, zB, zo, Tryd.f13, List.drop]
  repeat' first | (intro hb; first | cases hb | skip) | ((first | apply z6 | apply zc); (· rfl); (· simp (disch := assumption) only [go_sem, Nat.reduceEqDiff, Nat.reduceAdd, bP, zd, Nat.reduceLeDiff, Nat.reduceLT, Nat.reduceMul, List.length_append, decide_eq_true_eq, z7, z0, Int.reduceToNat, Int.reduceLE, Int.reduceLT, Int.reduceBNe, Int.reduceBEq, g3, g4, g5, g6, g9, g10, g11, g16, g17, g105, g106, g107, zG, zz, only, keysO, zU, bI, ck58, ck59, q1, q2, h20, h30, bne_self_eq_false, beq_self_eq_true, zy.snapAll, zx.snapAll, zy.ids, zy.idsL, zx.ids, zx.idsL, List.length_map, Nat.zero_lt_succ, ite_self, h20m, h19, h19m, h51a, h51b, h51c, d1, d2, d3, h38, h38m, h40, h40m, h60a, h60b]; rfl); (· simp only [go_sem, Nat.reduceLT, Nat.reduceEqDiff]; rfl); (· rfl); first | (apply zb; (· simp only [go_sem, Nat.reduceLT]; rfl); (· simp only [go_sem, Nat.reduceLT]; rfl)) | (apply zf; (· simp only [go_sem, Nat.reduceLT]; rfl))) | ((first | apply z9 | apply za); (· rfl); (· simp only [go_sem, Nat.reduceLT]; rfl)) | (apply z8; (· simp only [go_sem, Nat.reduceEqDiff])) | (apply z5; (· simp only [go_sem, Nat.reduceEqDiff])) | (apply ze; (· kernel_rfl); (· kernel_rfl)) | (simp only [bW, if_true, Nat.reduceEqDiff, if_false])
  all_goals refine S25 p r s ax l h hwf hk hl hh hret hnor _ _ _ (by decide) ?_ ?_ ?_ ?_ ?_ ?_ ?_ ?_ ?_ ?_ ?_ ?_
  all_goals first | rfl | exact g4 | exact g6 | exact g9 | exact g17 | exact g257 | exact g258

theorem S5mnex {F : Exit → St → Option D} (p : Paper) (m : Mark) (j : Join) (s t ax : Int) (sp : Span) (r : Reason) (l h : Ratio) (e : Int) (hwf : p.wf) (hk : zu p ax [s] = 0) (hl : l = loF p s ax) (hh : h = hiF p s ax) (hm1 : p.marks.length ≤ 1000) (hj1 : p.joins.length ≤ 1000) (hret : ∀ st, get st.tmps 18 = B true → F .ret st = some (B true)) (hnor : ∀ st, get st.tmps 18 = B true → F .normal st = some (B true)) (h20 : (lim cfg).pure 20 [zh p, I s, I ax] = some (.tup [.agg [I l.n, I l.d], .agg [I h.n, I h.d], I 0]))
    (q1 : (lim cfg).inl 58 [.sl p.nm (p.marks.map zm) (zs p.nm 5) none] [] 7 = some (.sl true [] 0 none, [], 7)) (q2 : (lim cfg).inl 59 [.sl p.nj (p.joins.map zj) (zs p.nj 7) none] [] 7 = some (.lsl 7 0 0 7 (some 0), [(7, ⟨[], 7, false⟩)], 8)) (h30 : (lim cfg).pure 30 [.agg [I p.sheets, .sl false [.agg [I m.sheet, I m.axis, I m.tru, I m.seen, I m.err]] 5 none, .sl false [] 7 none]] = some (.tup [B false, I e])) (tms : List (Nat × D)) (g3 : get tms 3 = B false) (g4 : get tms 4 = I s) (g5 : get tms 5 = I t) (g6 : get tms 6 = I ax) (g9 : get tms 9 = .lref 0 0 3 0) (g10 : get tms 10 = .lref 1 0 5 0) (g11 : get tms 11 = .lref 2 0 7 0) (g16 : get tms 16 = .lref 3 0 2 0) (g17 : get tms 17 = .lref 4 0 3 0) (g105 : get tms 105 = .agg [I p.sheets, .sl p.nm (p.marks.map zm) (zs p.nm 5) none, .sl p.nj (p.joins.map zj) (zs p.nj 7) none]) (g106 : get tms 106 = I s) (g107 : get tms 107 = I ax) :
    EvU cfg (lim cfg) 13 F o5c (o5c.toList.drop 3) [.code r5c] ⟨305, tms, [(0, ⟨[zh p], 3, false⟩), (1, ⟨[.agg [I m.sheet, I m.axis, I m.tru, I m.seen, I m.err]], 5, false⟩), (2, ⟨[.agg [I j.a, I j.b, I j.axis, I j.seenA, I j.errA, I j.seenB, I j.errB]], 7, false⟩), (3, ⟨[.agg [I sp.lo, I sp.hi]], 2, false⟩), (4, ⟨[.agg [B r.join, I r.at_, B r.back]], 3, false⟩)], 5, 0⟩ = some (B true) := by
  dsimp only [o5c, r5c, c5c, opsOf, zB, zo, Tryd.f13, List.drop]
  repeat' first | (intro hb; first | cases hb | skip) | ((first | apply z6 | apply zc); (· rfl); (· simp (disch := assumption) only [go_sem, Nat.reduceEqDiff, Nat.reduceAdd, bP, zd, Nat.reduceLeDiff, Nat.reduceLT, Nat.reduceMul, List.length_append, decide_eq_true_eq, z7, z0, Int.reduceToNat, Int.reduceLE, Int.reduceLT, Int.reduceBNe, Int.reduceBEq, g3, g4, g5, g6, g9, g10, g11, g16, g17, g105, g106, g107, zG, zz, only, keysO, zU, bI, ck58, ck59, q1, q2, h20, h30, bne_self_eq_false, beq_self_eq_true, zy.snapAll, zx.snapAll, zy.ids, zy.idsL, zx.ids, zx.idsL, List.length_map, Nat.zero_lt_succ, ite_self]; rfl); (· simp only [go_sem, Nat.reduceLT, Nat.reduceEqDiff]; rfl); (· rfl); first | (apply zb; (· simp only [go_sem, Nat.reduceLT]; rfl); (· simp only [go_sem, Nat.reduceLT]; rfl)) | (apply zf; (· simp only [go_sem, Nat.reduceLT]; rfl))) | ((first | apply z9 | apply za); (· rfl); (· simp only [go_sem, Nat.reduceLT]; rfl)) | (apply z8; (· simp only [go_sem, Nat.reduceEqDiff])) | (apply z5; (· simp only [go_sem, Nat.reduceEqDiff])) | (apply ze; (· kernel_rfl); (· kernel_rfl)) | (simp only [bW, if_true, Nat.reduceEqDiff, if_false])
  all_goals refine S25 p r s ax l h hwf hk hl hh hret hnor _ _ _ (by decide) ?_ ?_ ?_ ?_ ?_ ?_ ?_ ?_ ?_ ?_ ?_ ?_
  all_goals first | rfl | exact g4 | exact g6 | exact g9 | exact g17 | exact g257 | exact g258

theorem S5mney {F : Exit → St → Option D} (p : Paper) (m : Mark) (j : Join) (s t ax : Int) (sp : Span) (r : Reason) (l h : Ratio) (lm hm bt bm : Ratio) (o1 o2 o3 : Int) (x1 x2 y1 y2 : Span) (hwf : p.wf) (hk : zu p ax [s] = 0) (hl : l = loF p s ax) (hh : h = hiF p s ax) (hm1 : p.marks.length ≤ 1000) (hj1 : p.joins.length ≤ 1000) (hret : ∀ st, get st.tmps 18 = B true → F .ret st = some (B true)) (hnor : ∀ st, get st.tmps 18 = B true → F .normal st = some (B true)) (h20 : (lim cfg).pure 20 [zh p, I s, I ax] = some (.tup [.agg [I l.n, I l.d], .agg [I h.n, I h.d], I 0]))
    (q1 : (lim cfg).inl 58 [.sl p.nm (p.marks.map zm) (zs p.nm 5) none] [] 7 = some (.sl true [] 0 none, [], 7)) (q2 : (lim cfg).inl 59 [.sl p.nj (p.joins.map zj) (zs p.nj 7) none] [] 7 = some (.lsl 7 0 0 7 (some 0), [(7, ⟨[], 7, false⟩)], 8)) (h30 : (lim cfg).pure 30 [.agg [I p.sheets, .sl false [.agg [I m.sheet, I m.axis, I m.tru, I m.seen, I m.err]] 5 none, .sl false [] 7 none]] = some (.tup [B true, I 0])) (h20m : (lim cfg).pure 20 [.agg [I p.sheets, .sl false [.agg [I m.sheet, I m.axis, I m.tru, I m.seen, I m.err]] 5 none, .sl false [] 7 none], I s, I ax] = some (.tup [.agg [I lm.n, I lm.d], .agg [I hm.n, I hm.d], I 0])) (h19 : (lim cfg).pure 19 [zh p, I s, I t, I ax] = some (.tup [.agg [I bt.n, I bt.d], I 0])) (h19m : (lim cfg).pure 19 [.agg [I p.sheets, .sl false [.agg [I m.sheet, I m.axis, I m.tru, I m.seen, I m.err]] 5 none, .sl false [] 7 none], I s, I t, I ax] = some (.tup [.agg [I bm.n, I bm.d], I 0])) (h51a : (lim cfg).pure 51 [.agg [I lm.n, I lm.d], .agg [I l.n, I l.d]] = some (I o1)) (h51b : (lim cfg).pure 51 [.agg [I hm.n, I hm.d], .agg [I h.n, I h.d]] = some (I o2)) (h51c : (lim cfg).pure 51 [.agg [I bm.n, I bm.d], .agg [I bt.n, I bt.d]] = some (I o3)) (d1 : decide (o1 < 0) = false) (d2 : decide (o2 > 0) = false) (d3 : decide (o3 > 0) = false) (h38 : (lim cfg).pure 38 [zh p, I s, I ax, .agg [I sp.lo, I sp.hi]] = some (.tup [.agg [I x1.lo, I x1.hi], I 0])) (h38m : (lim cfg).pure 38 [.agg [I p.sheets, .sl false [.agg [I m.sheet, I m.axis, I m.tru, I m.seen, I m.err]] 5 none, .sl false [] 7 none], I s, I ax, .agg [I sp.lo, I sp.hi]] = some (.tup [.agg [I x2.lo, I x2.hi], I 0])) (h40 : (lim cfg).pure 40 [zh p, I s, .agg [I sp.lo, I sp.hi]] = some (.tup [.agg [I y1.lo, I y1.hi], I 0])) (h40m : (lim cfg).pure 40 [.agg [I p.sheets, .sl false [.agg [I m.sheet, I m.axis, I m.tru, I m.seen, I m.err]] 5 none, .sl false [] 7 none], I s, .agg [I sp.lo, I sp.hi]] = some (.tup [.agg [I y2.lo, I y2.hi], I 0])) (h60a : (lim cfg).pure 60 [.agg [I x2.lo, I x2.hi], .agg [I x1.lo, I x1.hi]] = some (B true)) (h60b : (lim cfg).pure 60 [.agg [I y2.lo, I y2.hi], .agg [I y1.lo, I y1.hi]] = some (B true)) (tms : List (Nat × D)) (g3 : get tms 3 = B false) (g4 : get tms 4 = I s) (g5 : get tms 5 = I t) (g6 : get tms 6 = I ax) (g9 : get tms 9 = .lref 0 0 3 0) (g10 : get tms 10 = .lref 1 0 5 0) (g11 : get tms 11 = .lref 2 0 7 0) (g16 : get tms 16 = .lref 3 0 2 0) (g17 : get tms 17 = .lref 4 0 3 0) (g105 : get tms 105 = .agg [I p.sheets, .sl p.nm (p.marks.map zm) (zs p.nm 5) none, .sl p.nj (p.joins.map zj) (zs p.nj 7) none]) (g106 : get tms 106 = I s) (g107 : get tms 107 = I ax) :
    EvU cfg (lim cfg) 13 F o5c (o5c.toList.drop 3) [.code r5c] ⟨305, tms, [(0, ⟨[zh p], 3, false⟩), (1, ⟨[.agg [I m.sheet, I m.axis, I m.tru, I m.seen, I m.err]], 5, false⟩), (2, ⟨[.agg [I j.a, I j.b, I j.axis, I j.seenA, I j.errA, I j.seenB, I j.errB]], 7, false⟩), (3, ⟨[.agg [I sp.lo, I sp.hi]], 2, false⟩), (4, ⟨[.agg [B r.join, I r.at_, B r.back]], 3, false⟩)], 5, 0⟩ = some (B true) := by
  dsimp only [o5c, r5c, c5c, opsOf, zB, zo, Tryd.f13, List.drop]
  repeat' first | (intro hb; first | cases hb | skip) | ((first | apply z6 | apply zc); (· rfl); (· simp (disch := assumption) only [go_sem, Nat.reduceEqDiff, Nat.reduceAdd, bP, zd, Nat.reduceLeDiff, Nat.reduceLT, Nat.reduceMul, List.length_append, decide_eq_true_eq, z7, z0, Int.reduceToNat, Int.reduceLE, Int.reduceLT, Int.reduceBNe, Int.reduceBEq, g3, g4, g5, g6, g9, g10, g11, g16, g17, g105, g106, g107, zG, zz, only, keysO, zU, bI, ck58, ck59, q1, q2, h20, h30, bne_self_eq_false, beq_self_eq_true, zy.snapAll, zx.snapAll, zy.ids, zy.idsL, zx.ids, zx.idsL, List.length_map, Nat.zero_lt_succ, ite_self, h20m, h19, h19m, h51a, h51b, h51c, d1, d2, d3, h38, h38m, h40, h40m, h60a, h60b]; rfl); (· simp only [go_sem, Nat.reduceLT, Nat.reduceEqDiff]; rfl); (· rfl); first | (apply zb; (· simp only [go_sem, Nat.reduceLT]; rfl); (· simp only [go_sem, Nat.reduceLT]; rfl)) | (apply zf; (· simp only [go_sem, Nat.reduceLT]; rfl))) | ((first | apply z9 | apply za); (· rfl); (· simp only [go_sem, Nat.reduceLT]; rfl)) | (apply z8; (· simp only [go_sem, Nat.reduceEqDiff])) | (apply z5; (· simp only [go_sem, Nat.reduceEqDiff])) | (apply ze; (· kernel_rfl); (· kernel_rfl)) | (simp only [bW, if_true, Nat.reduceEqDiff, if_false])
  all_goals refine S25 p r s ax l h hwf hk hl hh hret hnor _ _ _ (by decide) ?_ ?_ ?_ ?_ ?_ ?_ ?_ ?_ ?_ ?_ ?_ ?_
  all_goals first | rfl | exact g4 | exact g6 | exact g9 | exact g17 | exact g257 | exact g258

theorem S5mncx {F : Exit → St → Option D} (p : Paper) (m : Mark) (j : Join) (s t ax : Int) (sp : Span) (r : Reason) (l h : Ratio) (e : Int) (hwf : p.wf) (hk : zu p ax [s] = 0) (hl : l = loF p s ax) (hh : h = hiF p s ax) (hm1 : p.marks.length ≤ 1000) (hj1 : p.joins.length ≤ 1000) (hret : ∀ st, get st.tmps 18 = B true → F .ret st = some (B true)) (hnor : ∀ st, get st.tmps 18 = B true → F .normal st = some (B true)) (h20 : (lim cfg).pure 20 [zh p, I s, I ax] = some (.tup [.agg [I l.n, I l.d], .agg [I h.n, I h.d], I 0]))
    (q1 : (lim cfg).inl 58 [.sl p.nm (p.marks.map zm) (zs p.nm 5) none] [] 7 = some (.sl true [] 0 none, [], 7)) (q2 : (lim cfg).inl 59 [.sl p.nj (p.joins.map zj) (zs p.nj 7) none] [] 7 = some (.lsl 8 0 p.joins.length 7 none, [(7, ⟨[], 7, false⟩), (8, ⟨p.joins.map zj, 7, false⟩)], 9)) (h30 : (lim cfg).pure 30 [.agg [I p.sheets, .sl false [.agg [I m.sheet, I m.axis, I m.tru, I m.seen, I m.err]] 5 none, .sl false (List.map zj p.joins) 7 none]] = some (.tup [B false, I e])) (tms : List (Nat × D)) (g3 : get tms 3 = B false) (g4 : get tms 4 = I s) (g5 : get tms 5 = I t) (g6 : get tms 6 = I ax) (g9 : get tms 9 = .lref 0 0 3 0) (g10 : get tms 10 = .lref 1 0 5 0) (g11 : get tms 11 = .lref 2 0 7 0) (g16 : get tms 16 = .lref 3 0 2 0) (g17 : get tms 17 = .lref 4 0 3 0) (g105 : get tms 105 = .agg [I p.sheets, .sl p.nm (p.marks.map zm) (zs p.nm 5) none, .sl p.nj (p.joins.map zj) (zs p.nj 7) none]) (g106 : get tms 106 = I s) (g107 : get tms 107 = I ax) :
    EvU cfg (lim cfg) 13 F o5c (o5c.toList.drop 3) [.code r5c] ⟨305, tms, [(0, ⟨[zh p], 3, false⟩), (1, ⟨[.agg [I m.sheet, I m.axis, I m.tru, I m.seen, I m.err]], 5, false⟩), (2, ⟨[.agg [I j.a, I j.b, I j.axis, I j.seenA, I j.errA, I j.seenB, I j.errB]], 7, false⟩), (3, ⟨[.agg [I sp.lo, I sp.hi]], 2, false⟩), (4, ⟨[.agg [B r.join, I r.at_, B r.back]], 3, false⟩)], 5, 0⟩ = some (B true) := by
  dsimp only [o5c, r5c, c5c, opsOf, zB, zo, Tryd.f13, List.drop]
  repeat' first | (intro hb; first | cases hb | skip) | ((first | apply z6 | apply zc); (· rfl); (· simp (disch := assumption) only [go_sem, Nat.reduceEqDiff, Nat.reduceAdd, bP, zd, Nat.reduceLeDiff, Nat.reduceLT, Nat.reduceMul, List.length_append, decide_eq_true_eq, z7, z0, Int.reduceToNat, Int.reduceLE, Int.reduceLT, Int.reduceBNe, Int.reduceBEq, g3, g4, g5, g6, g9, g10, g11, g16, g17, g105, g106, g107, zG, zz, only, keysO, zU, bI, ck58, ck59, q1, q2, h20, h30, bne_self_eq_false, beq_self_eq_true, zy.snapAll, zx.snapAll, zy.ids, zy.idsL, zx.ids, zx.idsL, List.length_map, Nat.zero_lt_succ, ite_self]; rfl); (· simp only [go_sem, Nat.reduceLT, Nat.reduceEqDiff]; rfl); (· rfl); first | (apply zb; (· simp only [go_sem, Nat.reduceLT]; rfl); (· simp only [go_sem, Nat.reduceLT]; rfl)) | (apply zf; (· simp only [go_sem, Nat.reduceLT]; rfl))) | ((first | apply z9 | apply za); (· rfl); (· simp only [go_sem, Nat.reduceLT]; rfl)) | (apply z8; (· simp only [go_sem, Nat.reduceEqDiff])) | (apply z5; (· simp only [go_sem, Nat.reduceEqDiff])) | (apply ze; (· kernel_rfl); (· kernel_rfl)) | (simp only [bW, if_true, Nat.reduceEqDiff, if_false])
  all_goals refine S25 p r s ax l h hwf hk hl hh hret hnor _ _ _ (by decide) ?_ ?_ ?_ ?_ ?_ ?_ ?_ ?_ ?_ ?_ ?_ ?_
  all_goals first | rfl | exact g4 | exact g6 | exact g9 | exact g17 | exact g257 | exact g258

theorem S5mncy {F : Exit → St → Option D} (p : Paper) (m : Mark) (j : Join) (s t ax : Int) (sp : Span) (r : Reason) (l h : Ratio) (lm hm bt bm : Ratio) (o1 o2 o3 : Int) (x1 x2 y1 y2 : Span) (hwf : p.wf) (hk : zu p ax [s] = 0) (hl : l = loF p s ax) (hh : h = hiF p s ax) (hm1 : p.marks.length ≤ 1000) (hj1 : p.joins.length ≤ 1000) (hret : ∀ st, get st.tmps 18 = B true → F .ret st = some (B true)) (hnor : ∀ st, get st.tmps 18 = B true → F .normal st = some (B true)) (h20 : (lim cfg).pure 20 [zh p, I s, I ax] = some (.tup [.agg [I l.n, I l.d], .agg [I h.n, I h.d], I 0]))
    (q1 : (lim cfg).inl 58 [.sl p.nm (p.marks.map zm) (zs p.nm 5) none] [] 7 = some (.sl true [] 0 none, [], 7)) (q2 : (lim cfg).inl 59 [.sl p.nj (p.joins.map zj) (zs p.nj 7) none] [] 7 = some (.lsl 8 0 p.joins.length 7 none, [(7, ⟨[], 7, false⟩), (8, ⟨p.joins.map zj, 7, false⟩)], 9)) (h30 : (lim cfg).pure 30 [.agg [I p.sheets, .sl false [.agg [I m.sheet, I m.axis, I m.tru, I m.seen, I m.err]] 5 none, .sl false (List.map zj p.joins) 7 none]] = some (.tup [B true, I 0])) (h20m : (lim cfg).pure 20 [.agg [I p.sheets, .sl false [.agg [I m.sheet, I m.axis, I m.tru, I m.seen, I m.err]] 5 none, .sl false (List.map zj p.joins) 7 none], I s, I ax] = some (.tup [.agg [I lm.n, I lm.d], .agg [I hm.n, I hm.d], I 0])) (h19 : (lim cfg).pure 19 [zh p, I s, I t, I ax] = some (.tup [.agg [I bt.n, I bt.d], I 0])) (h19m : (lim cfg).pure 19 [.agg [I p.sheets, .sl false [.agg [I m.sheet, I m.axis, I m.tru, I m.seen, I m.err]] 5 none, .sl false (List.map zj p.joins) 7 none], I s, I t, I ax] = some (.tup [.agg [I bm.n, I bm.d], I 0])) (h51a : (lim cfg).pure 51 [.agg [I lm.n, I lm.d], .agg [I l.n, I l.d]] = some (I o1)) (h51b : (lim cfg).pure 51 [.agg [I hm.n, I hm.d], .agg [I h.n, I h.d]] = some (I o2)) (h51c : (lim cfg).pure 51 [.agg [I bm.n, I bm.d], .agg [I bt.n, I bt.d]] = some (I o3)) (d1 : decide (o1 < 0) = false) (d2 : decide (o2 > 0) = false) (d3 : decide (o3 > 0) = false) (h38 : (lim cfg).pure 38 [zh p, I s, I ax, .agg [I sp.lo, I sp.hi]] = some (.tup [.agg [I x1.lo, I x1.hi], I 0])) (h38m : (lim cfg).pure 38 [.agg [I p.sheets, .sl false [.agg [I m.sheet, I m.axis, I m.tru, I m.seen, I m.err]] 5 none, .sl false (List.map zj p.joins) 7 none], I s, I ax, .agg [I sp.lo, I sp.hi]] = some (.tup [.agg [I x2.lo, I x2.hi], I 0])) (h40 : (lim cfg).pure 40 [zh p, I s, .agg [I sp.lo, I sp.hi]] = some (.tup [.agg [I y1.lo, I y1.hi], I 0])) (h40m : (lim cfg).pure 40 [.agg [I p.sheets, .sl false [.agg [I m.sheet, I m.axis, I m.tru, I m.seen, I m.err]] 5 none, .sl false (List.map zj p.joins) 7 none], I s, .agg [I sp.lo, I sp.hi]] = some (.tup [.agg [I y2.lo, I y2.hi], I 0])) (h60a : (lim cfg).pure 60 [.agg [I x2.lo, I x2.hi], .agg [I x1.lo, I x1.hi]] = some (B true)) (h60b : (lim cfg).pure 60 [.agg [I y2.lo, I y2.hi], .agg [I y1.lo, I y1.hi]] = some (B true)) (tms : List (Nat × D)) (g3 : get tms 3 = B false) (g4 : get tms 4 = I s) (g5 : get tms 5 = I t) (g6 : get tms 6 = I ax) (g9 : get tms 9 = .lref 0 0 3 0) (g10 : get tms 10 = .lref 1 0 5 0) (g11 : get tms 11 = .lref 2 0 7 0) (g16 : get tms 16 = .lref 3 0 2 0) (g17 : get tms 17 = .lref 4 0 3 0) (g105 : get tms 105 = .agg [I p.sheets, .sl p.nm (p.marks.map zm) (zs p.nm 5) none, .sl p.nj (p.joins.map zj) (zs p.nj 7) none]) (g106 : get tms 106 = I s) (g107 : get tms 107 = I ax) :
    EvU cfg (lim cfg) 13 F o5c (o5c.toList.drop 3) [.code r5c] ⟨305, tms, [(0, ⟨[zh p], 3, false⟩), (1, ⟨[.agg [I m.sheet, I m.axis, I m.tru, I m.seen, I m.err]], 5, false⟩), (2, ⟨[.agg [I j.a, I j.b, I j.axis, I j.seenA, I j.errA, I j.seenB, I j.errB]], 7, false⟩), (3, ⟨[.agg [I sp.lo, I sp.hi]], 2, false⟩), (4, ⟨[.agg [B r.join, I r.at_, B r.back]], 3, false⟩)], 5, 0⟩ = some (B true) := by
  dsimp only [o5c, r5c, c5c, opsOf, zB, zo, Tryd.f13, List.drop]
  repeat' first | (intro hb; first | cases hb | skip) | ((first | apply z6 | apply zc); (· rfl); (· simp (disch := assumption) only [go_sem, Nat.reduceEqDiff, Nat.reduceAdd, bP, zd, Nat.reduceLeDiff, Nat.reduceLT, Nat.reduceMul, List.length_append, decide_eq_true_eq, z7, z0, Int.reduceToNat, Int.reduceLE, Int.reduceLT, Int.reduceBNe, Int.reduceBEq, g3, g4, g5, g6, g9, g10, g11, g16, g17, g105, g106, g107, zG, zz, only, keysO, zU, bI, ck58, ck59, q1, q2, h20, h30, bne_self_eq_false, beq_self_eq_true, zy.snapAll, zx.snapAll, zy.ids, zy.idsL, zx.ids, zx.idsL, List.length_map, Nat.zero_lt_succ, ite_self, h20m, h19, h19m, h51a, h51b, h51c, d1, d2, d3, h38, h38m, h40, h40m, h60a, h60b]; rfl); (· simp only [go_sem, Nat.reduceLT, Nat.reduceEqDiff]; rfl); (· rfl); first | (apply zb; (· simp only [go_sem, Nat.reduceLT]; rfl); (· simp only [go_sem, Nat.reduceLT]; rfl)) | (apply zf; (· simp only [go_sem, Nat.reduceLT]; rfl))) | ((first | apply z9 | apply za); (· rfl); (· simp only [go_sem, Nat.reduceLT]; rfl)) | (apply z8; (· simp only [go_sem, Nat.reduceEqDiff])) | (apply z5; (· simp only [go_sem, Nat.reduceEqDiff])) | (apply ze; (· kernel_rfl); (· kernel_rfl)) | (simp only [bW, if_true, Nat.reduceEqDiff, if_false])
  all_goals refine S25 p r s ax l h hwf hk hl hh hret hnor _ _ _ (by decide) ?_ ?_ ?_ ?_ ?_ ?_ ?_ ?_ ?_ ?_ ?_ ?_
  all_goals first | rfl | exact g4 | exact g6 | exact g9 | exact g17 | exact g257 | exact g258

theorem S5menx {F : Exit → St → Option D} (p : Paper) (m : Mark) (j : Join) (s t ax : Int) (sp : Span) (r : Reason) (l h : Ratio) (e : Int) (hwf : p.wf) (hk : zu p ax [s] = 0) (hl : l = loF p s ax) (hh : h = hiF p s ax) (hm1 : p.marks.length ≤ 1000) (hj1 : p.joins.length ≤ 1000) (hret : ∀ st, get st.tmps 18 = B true → F .ret st = some (B true)) (hnor : ∀ st, get st.tmps 18 = B true → F .normal st = some (B true)) (h20 : (lim cfg).pure 20 [zh p, I s, I ax] = some (.tup [.agg [I l.n, I l.d], .agg [I h.n, I h.d], I 0]))
    (q1 : (lim cfg).inl 58 [.sl p.nm (p.marks.map zm) (zs p.nm 5) none] [] 7 = some (.lsl 7 0 0 5 (some 0), [(7, ⟨[], 5, false⟩)], 8)) (q2 : (lim cfg).inl 59 [.sl p.nj (p.joins.map zj) (zs p.nj 7) none] [] 8 = some (.sl true [] 0 none, [], 8)) (h30 : (lim cfg).pure 30 [.agg [I p.sheets, .sl false [.agg [I m.sheet, I m.axis, I m.tru, I m.seen, I m.err]] 5 none, .sl true [] 0 none]] = some (.tup [B false, I e])) (tms : List (Nat × D)) (g3 : get tms 3 = B false) (g4 : get tms 4 = I s) (g5 : get tms 5 = I t) (g6 : get tms 6 = I ax) (g9 : get tms 9 = .lref 0 0 3 0) (g10 : get tms 10 = .lref 1 0 5 0) (g11 : get tms 11 = .lref 2 0 7 0) (g16 : get tms 16 = .lref 3 0 2 0) (g17 : get tms 17 = .lref 4 0 3 0) (g105 : get tms 105 = .agg [I p.sheets, .sl p.nm (p.marks.map zm) (zs p.nm 5) none, .sl p.nj (p.joins.map zj) (zs p.nj 7) none]) (g106 : get tms 106 = I s) (g107 : get tms 107 = I ax) :
    EvU cfg (lim cfg) 13 F o5c (o5c.toList.drop 3) [.code r5c] ⟨305, tms, [(0, ⟨[zh p], 3, false⟩), (1, ⟨[.agg [I m.sheet, I m.axis, I m.tru, I m.seen, I m.err]], 5, false⟩), (2, ⟨[.agg [I j.a, I j.b, I j.axis, I j.seenA, I j.errA, I j.seenB, I j.errB]], 7, false⟩), (3, ⟨[.agg [I sp.lo, I sp.hi]], 2, false⟩), (4, ⟨[.agg [B r.join, I r.at_, B r.back]], 3, false⟩)], 5, 0⟩ = some (B true) := by
  dsimp only [o5c, r5c, c5c, opsOf, zB, zo, Tryd.f13, List.drop]
  repeat' first | (intro hb; first | cases hb | skip) | ((first | apply z6 | apply zc); (· rfl); (· simp (disch := assumption) only [go_sem, Nat.reduceEqDiff, Nat.reduceAdd, bP, zd, Nat.reduceLeDiff, Nat.reduceLT, Nat.reduceMul, List.length_append, decide_eq_true_eq, z7, z0, Int.reduceToNat, Int.reduceLE, Int.reduceLT, Int.reduceBNe, Int.reduceBEq, g3, g4, g5, g6, g9, g10, g11, g16, g17, g105, g106, g107, zG, zz, only, keysO, zU, bI, ck58, ck59, q1, q2, h20, h30, bne_self_eq_false, beq_self_eq_true, zy.snapAll, zx.snapAll, zy.ids, zy.idsL, zx.ids, zx.idsL, List.length_map, Nat.zero_lt_succ, ite_self]; rfl); (· simp only [go_sem, Nat.reduceLT, Nat.reduceEqDiff]; rfl); (· rfl); first | (apply zb; (· simp only [go_sem, Nat.reduceLT]; rfl); (· simp only [go_sem, Nat.reduceLT]; rfl)) | (apply zf; (· simp only [go_sem, Nat.reduceLT]; rfl))) | ((first | apply z9 | apply za); (· rfl); (· simp only [go_sem, Nat.reduceLT]; rfl)) | (apply z8; (· simp only [go_sem, Nat.reduceEqDiff])) | (apply z5; (· simp only [go_sem, Nat.reduceEqDiff])) | (apply ze; (· kernel_rfl); (· kernel_rfl)) | (simp only [bW, if_true, Nat.reduceEqDiff, if_false])
  all_goals refine S25 p r s ax l h hwf hk hl hh hret hnor _ _ _ (by decide) ?_ ?_ ?_ ?_ ?_ ?_ ?_ ?_ ?_ ?_ ?_ ?_
  all_goals first | rfl | exact g4 | exact g6 | exact g9 | exact g17 | exact g257 | exact g258

theorem S5meny {F : Exit → St → Option D} (p : Paper) (m : Mark) (j : Join) (s t ax : Int) (sp : Span) (r : Reason) (l h : Ratio) (lm hm bt bm : Ratio) (o1 o2 o3 : Int) (x1 x2 y1 y2 : Span) (hwf : p.wf) (hk : zu p ax [s] = 0) (hl : l = loF p s ax) (hh : h = hiF p s ax) (hm1 : p.marks.length ≤ 1000) (hj1 : p.joins.length ≤ 1000) (hret : ∀ st, get st.tmps 18 = B true → F .ret st = some (B true)) (hnor : ∀ st, get st.tmps 18 = B true → F .normal st = some (B true)) (h20 : (lim cfg).pure 20 [zh p, I s, I ax] = some (.tup [.agg [I l.n, I l.d], .agg [I h.n, I h.d], I 0]))
    (q1 : (lim cfg).inl 58 [.sl p.nm (p.marks.map zm) (zs p.nm 5) none] [] 7 = some (.lsl 7 0 0 5 (some 0), [(7, ⟨[], 5, false⟩)], 8)) (q2 : (lim cfg).inl 59 [.sl p.nj (p.joins.map zj) (zs p.nj 7) none] [] 8 = some (.sl true [] 0 none, [], 8)) (h30 : (lim cfg).pure 30 [.agg [I p.sheets, .sl false [.agg [I m.sheet, I m.axis, I m.tru, I m.seen, I m.err]] 5 none, .sl true [] 0 none]] = some (.tup [B true, I 0])) (h20m : (lim cfg).pure 20 [.agg [I p.sheets, .sl false [.agg [I m.sheet, I m.axis, I m.tru, I m.seen, I m.err]] 5 none, .sl true [] 0 none], I s, I ax] = some (.tup [.agg [I lm.n, I lm.d], .agg [I hm.n, I hm.d], I 0])) (h19 : (lim cfg).pure 19 [zh p, I s, I t, I ax] = some (.tup [.agg [I bt.n, I bt.d], I 0])) (h19m : (lim cfg).pure 19 [.agg [I p.sheets, .sl false [.agg [I m.sheet, I m.axis, I m.tru, I m.seen, I m.err]] 5 none, .sl true [] 0 none], I s, I t, I ax] = some (.tup [.agg [I bm.n, I bm.d], I 0])) (h51a : (lim cfg).pure 51 [.agg [I lm.n, I lm.d], .agg [I l.n, I l.d]] = some (I o1)) (h51b : (lim cfg).pure 51 [.agg [I hm.n, I hm.d], .agg [I h.n, I h.d]] = some (I o2)) (h51c : (lim cfg).pure 51 [.agg [I bm.n, I bm.d], .agg [I bt.n, I bt.d]] = some (I o3)) (d1 : decide (o1 < 0) = false) (d2 : decide (o2 > 0) = false) (d3 : decide (o3 > 0) = false) (h38 : (lim cfg).pure 38 [zh p, I s, I ax, .agg [I sp.lo, I sp.hi]] = some (.tup [.agg [I x1.lo, I x1.hi], I 0])) (h38m : (lim cfg).pure 38 [.agg [I p.sheets, .sl false [.agg [I m.sheet, I m.axis, I m.tru, I m.seen, I m.err]] 5 none, .sl true [] 0 none], I s, I ax, .agg [I sp.lo, I sp.hi]] = some (.tup [.agg [I x2.lo, I x2.hi], I 0])) (h40 : (lim cfg).pure 40 [zh p, I s, .agg [I sp.lo, I sp.hi]] = some (.tup [.agg [I y1.lo, I y1.hi], I 0])) (h40m : (lim cfg).pure 40 [.agg [I p.sheets, .sl false [.agg [I m.sheet, I m.axis, I m.tru, I m.seen, I m.err]] 5 none, .sl true [] 0 none], I s, .agg [I sp.lo, I sp.hi]] = some (.tup [.agg [I y2.lo, I y2.hi], I 0])) (h60a : (lim cfg).pure 60 [.agg [I x2.lo, I x2.hi], .agg [I x1.lo, I x1.hi]] = some (B true)) (h60b : (lim cfg).pure 60 [.agg [I y2.lo, I y2.hi], .agg [I y1.lo, I y1.hi]] = some (B true)) (tms : List (Nat × D)) (g3 : get tms 3 = B false) (g4 : get tms 4 = I s) (g5 : get tms 5 = I t) (g6 : get tms 6 = I ax) (g9 : get tms 9 = .lref 0 0 3 0) (g10 : get tms 10 = .lref 1 0 5 0) (g11 : get tms 11 = .lref 2 0 7 0) (g16 : get tms 16 = .lref 3 0 2 0) (g17 : get tms 17 = .lref 4 0 3 0) (g105 : get tms 105 = .agg [I p.sheets, .sl p.nm (p.marks.map zm) (zs p.nm 5) none, .sl p.nj (p.joins.map zj) (zs p.nj 7) none]) (g106 : get tms 106 = I s) (g107 : get tms 107 = I ax) :
    EvU cfg (lim cfg) 13 F o5c (o5c.toList.drop 3) [.code r5c] ⟨305, tms, [(0, ⟨[zh p], 3, false⟩), (1, ⟨[.agg [I m.sheet, I m.axis, I m.tru, I m.seen, I m.err]], 5, false⟩), (2, ⟨[.agg [I j.a, I j.b, I j.axis, I j.seenA, I j.errA, I j.seenB, I j.errB]], 7, false⟩), (3, ⟨[.agg [I sp.lo, I sp.hi]], 2, false⟩), (4, ⟨[.agg [B r.join, I r.at_, B r.back]], 3, false⟩)], 5, 0⟩ = some (B true) := by
  dsimp only [o5c, r5c, c5c, opsOf, zB, zo, Tryd.f13, List.drop]
  repeat' first | (intro hb; first | cases hb | skip) | ((first | apply z6 | apply zc); (· rfl); (· simp (disch := assumption) only [go_sem, Nat.reduceEqDiff, Nat.reduceAdd, bP, zd, Nat.reduceLeDiff, Nat.reduceLT, Nat.reduceMul, List.length_append, decide_eq_true_eq, z7, z0, Int.reduceToNat, Int.reduceLE, Int.reduceLT, Int.reduceBNe, Int.reduceBEq, g3, g4, g5, g6, g9, g10, g11, g16, g17, g105, g106, g107, zG, zz, only, keysO, zU, bI, ck58, ck59, q1, q2, h20, h30, bne_self_eq_false, beq_self_eq_true, zy.snapAll, zx.snapAll, zy.ids, zy.idsL, zx.ids, zx.idsL, List.length_map, Nat.zero_lt_succ, ite_self, h20m, h19, h19m, h51a, h51b, h51c, d1, d2, d3, h38, h38m, h40, h40m, h60a, h60b]; rfl); (· simp only [go_sem, Nat.reduceLT, Nat.reduceEqDiff]; rfl); (· rfl); first | (apply zb; (· simp only [go_sem, Nat.reduceLT]; rfl); (· simp only [go_sem, Nat.reduceLT]; rfl)) | (apply zf; (· simp only [go_sem, Nat.reduceLT]; rfl))) | ((first | apply z9 | apply za); (· rfl); (· simp only [go_sem, Nat.reduceLT]; rfl)) | (apply z8; (· simp only [go_sem, Nat.reduceEqDiff])) | (apply z5; (· simp only [go_sem, Nat.reduceEqDiff])) | (apply ze; (· kernel_rfl); (· kernel_rfl)) | (simp only [bW, if_true, Nat.reduceEqDiff, if_false])
  all_goals refine S25 p r s ax l h hwf hk hl hh hret hnor _ _ _ (by decide) ?_ ?_ ?_ ?_ ?_ ?_ ?_ ?_ ?_ ?_ ?_ ?_
  all_goals first | rfl | exact g4 | exact g6 | exact g9 | exact g17 | exact g257 | exact g258

theorem S5meex {F : Exit → St → Option D} (p : Paper) (m : Mark) (j : Join) (s t ax : Int) (sp : Span) (r : Reason) (l h : Ratio) (e : Int) (hwf : p.wf) (hk : zu p ax [s] = 0) (hl : l = loF p s ax) (hh : h = hiF p s ax) (hm1 : p.marks.length ≤ 1000) (hj1 : p.joins.length ≤ 1000) (hret : ∀ st, get st.tmps 18 = B true → F .ret st = some (B true)) (hnor : ∀ st, get st.tmps 18 = B true → F .normal st = some (B true)) (h20 : (lim cfg).pure 20 [zh p, I s, I ax] = some (.tup [.agg [I l.n, I l.d], .agg [I h.n, I h.d], I 0]))
    (q1 : (lim cfg).inl 58 [.sl p.nm (p.marks.map zm) (zs p.nm 5) none] [] 7 = some (.lsl 7 0 0 5 (some 0), [(7, ⟨[], 5, false⟩)], 8)) (q2 : (lim cfg).inl 59 [.sl p.nj (p.joins.map zj) (zs p.nj 7) none] [] 8 = some (.lsl 8 0 0 7 (some 0), [(8, ⟨[], 7, false⟩)], 9)) (h30 : (lim cfg).pure 30 [.agg [I p.sheets, .sl false [.agg [I m.sheet, I m.axis, I m.tru, I m.seen, I m.err]] 5 none, .sl false [] 7 none]] = some (.tup [B false, I e])) (tms : List (Nat × D)) (g3 : get tms 3 = B false) (g4 : get tms 4 = I s) (g5 : get tms 5 = I t) (g6 : get tms 6 = I ax) (g9 : get tms 9 = .lref 0 0 3 0) (g10 : get tms 10 = .lref 1 0 5 0) (g11 : get tms 11 = .lref 2 0 7 0) (g16 : get tms 16 = .lref 3 0 2 0) (g17 : get tms 17 = .lref 4 0 3 0) (g105 : get tms 105 = .agg [I p.sheets, .sl p.nm (p.marks.map zm) (zs p.nm 5) none, .sl p.nj (p.joins.map zj) (zs p.nj 7) none]) (g106 : get tms 106 = I s) (g107 : get tms 107 = I ax) :
    EvU cfg (lim cfg) 13 F o5c (o5c.toList.drop 3) [.code r5c] ⟨305, tms, [(0, ⟨[zh p], 3, false⟩), (1, ⟨[.agg [I m.sheet, I m.axis, I m.tru, I m.seen, I m.err]], 5, false⟩), (2, ⟨[.agg [I j.a, I j.b, I j.axis, I j.seenA, I j.errA, I j.seenB, I j.errB]], 7, false⟩), (3, ⟨[.agg [I sp.lo, I sp.hi]], 2, false⟩), (4, ⟨[.agg [B r.join, I r.at_, B r.back]], 3, false⟩)], 5, 0⟩ = some (B true) := by
  dsimp only [o5c, r5c, c5c, opsOf, zB, zo, Tryd.f13, List.drop]
  repeat' first | (intro hb; first | cases hb | skip) | ((first | apply z6 | apply zc); (· rfl); (· simp (disch := assumption) only [go_sem, Nat.reduceEqDiff, Nat.reduceAdd, bP, zd, Nat.reduceLeDiff, Nat.reduceLT, Nat.reduceMul, List.length_append, decide_eq_true_eq, z7, z0, Int.reduceToNat, Int.reduceLE, Int.reduceLT, Int.reduceBNe, Int.reduceBEq, g3, g4, g5, g6, g9, g10, g11, g16, g17, g105, g106, g107, zG, zz, only, keysO, zU, bI, ck58, ck59, q1, q2, h20, h30, bne_self_eq_false, beq_self_eq_true, zy.snapAll, zx.snapAll, zy.ids, zy.idsL, zx.ids, zx.idsL, List.length_map, Nat.zero_lt_succ, ite_self]; rfl); (· simp only [go_sem, Nat.reduceLT, Nat.reduceEqDiff]; rfl); (· rfl); first | (apply zb; (· simp only [go_sem, Nat.reduceLT]; rfl); (· simp only [go_sem, Nat.reduceLT]; rfl)) | (apply zf; (· simp only [go_sem, Nat.reduceLT]; rfl))) | ((first | apply z9 | apply za); (· rfl); (· simp only [go_sem, Nat.reduceLT]; rfl)) | (apply z8; (· simp only [go_sem, Nat.reduceEqDiff])) | (apply z5; (· simp only [go_sem, Nat.reduceEqDiff])) | (apply ze; (· kernel_rfl); (· kernel_rfl)) | (simp only [bW, if_true, Nat.reduceEqDiff, if_false])
  all_goals refine S25 p r s ax l h hwf hk hl hh hret hnor _ _ _ (by decide) ?_ ?_ ?_ ?_ ?_ ?_ ?_ ?_ ?_ ?_ ?_ ?_
  all_goals first | rfl | exact g4 | exact g6 | exact g9 | exact g17 | exact g257 | exact g258

theorem S5meey {F : Exit → St → Option D} (p : Paper) (m : Mark) (j : Join) (s t ax : Int) (sp : Span) (r : Reason) (l h : Ratio) (lm hm bt bm : Ratio) (o1 o2 o3 : Int) (x1 x2 y1 y2 : Span) (hwf : p.wf) (hk : zu p ax [s] = 0) (hl : l = loF p s ax) (hh : h = hiF p s ax) (hm1 : p.marks.length ≤ 1000) (hj1 : p.joins.length ≤ 1000) (hret : ∀ st, get st.tmps 18 = B true → F .ret st = some (B true)) (hnor : ∀ st, get st.tmps 18 = B true → F .normal st = some (B true)) (h20 : (lim cfg).pure 20 [zh p, I s, I ax] = some (.tup [.agg [I l.n, I l.d], .agg [I h.n, I h.d], I 0]))
    (q1 : (lim cfg).inl 58 [.sl p.nm (p.marks.map zm) (zs p.nm 5) none] [] 7 = some (.lsl 7 0 0 5 (some 0), [(7, ⟨[], 5, false⟩)], 8)) (q2 : (lim cfg).inl 59 [.sl p.nj (p.joins.map zj) (zs p.nj 7) none] [] 8 = some (.lsl 8 0 0 7 (some 0), [(8, ⟨[], 7, false⟩)], 9)) (h30 : (lim cfg).pure 30 [.agg [I p.sheets, .sl false [.agg [I m.sheet, I m.axis, I m.tru, I m.seen, I m.err]] 5 none, .sl false [] 7 none]] = some (.tup [B true, I 0])) (h20m : (lim cfg).pure 20 [.agg [I p.sheets, .sl false [.agg [I m.sheet, I m.axis, I m.tru, I m.seen, I m.err]] 5 none, .sl false [] 7 none], I s, I ax] = some (.tup [.agg [I lm.n, I lm.d], .agg [I hm.n, I hm.d], I 0])) (h19 : (lim cfg).pure 19 [zh p, I s, I t, I ax] = some (.tup [.agg [I bt.n, I bt.d], I 0])) (h19m : (lim cfg).pure 19 [.agg [I p.sheets, .sl false [.agg [I m.sheet, I m.axis, I m.tru, I m.seen, I m.err]] 5 none, .sl false [] 7 none], I s, I t, I ax] = some (.tup [.agg [I bm.n, I bm.d], I 0])) (h51a : (lim cfg).pure 51 [.agg [I lm.n, I lm.d], .agg [I l.n, I l.d]] = some (I o1)) (h51b : (lim cfg).pure 51 [.agg [I hm.n, I hm.d], .agg [I h.n, I h.d]] = some (I o2)) (h51c : (lim cfg).pure 51 [.agg [I bm.n, I bm.d], .agg [I bt.n, I bt.d]] = some (I o3)) (d1 : decide (o1 < 0) = false) (d2 : decide (o2 > 0) = false) (d3 : decide (o3 > 0) = false) (h38 : (lim cfg).pure 38 [zh p, I s, I ax, .agg [I sp.lo, I sp.hi]] = some (.tup [.agg [I x1.lo, I x1.hi], I 0])) (h38m : (lim cfg).pure 38 [.agg [I p.sheets, .sl false [.agg [I m.sheet, I m.axis, I m.tru, I m.seen, I m.err]] 5 none, .sl false [] 7 none], I s, I ax, .agg [I sp.lo, I sp.hi]] = some (.tup [.agg [I x2.lo, I x2.hi], I 0])) (h40 : (lim cfg).pure 40 [zh p, I s, .agg [I sp.lo, I sp.hi]] = some (.tup [.agg [I y1.lo, I y1.hi], I 0])) (h40m : (lim cfg).pure 40 [.agg [I p.sheets, .sl false [.agg [I m.sheet, I m.axis, I m.tru, I m.seen, I m.err]] 5 none, .sl false [] 7 none], I s, .agg [I sp.lo, I sp.hi]] = some (.tup [.agg [I y2.lo, I y2.hi], I 0])) (h60a : (lim cfg).pure 60 [.agg [I x2.lo, I x2.hi], .agg [I x1.lo, I x1.hi]] = some (B true)) (h60b : (lim cfg).pure 60 [.agg [I y2.lo, I y2.hi], .agg [I y1.lo, I y1.hi]] = some (B true)) (tms : List (Nat × D)) (g3 : get tms 3 = B false) (g4 : get tms 4 = I s) (g5 : get tms 5 = I t) (g6 : get tms 6 = I ax) (g9 : get tms 9 = .lref 0 0 3 0) (g10 : get tms 10 = .lref 1 0 5 0) (g11 : get tms 11 = .lref 2 0 7 0) (g16 : get tms 16 = .lref 3 0 2 0) (g17 : get tms 17 = .lref 4 0 3 0) (g105 : get tms 105 = .agg [I p.sheets, .sl p.nm (p.marks.map zm) (zs p.nm 5) none, .sl p.nj (p.joins.map zj) (zs p.nj 7) none]) (g106 : get tms 106 = I s) (g107 : get tms 107 = I ax) :
    EvU cfg (lim cfg) 13 F o5c (o5c.toList.drop 3) [.code r5c] ⟨305, tms, [(0, ⟨[zh p], 3, false⟩), (1, ⟨[.agg [I m.sheet, I m.axis, I m.tru, I m.seen, I m.err]], 5, false⟩), (2, ⟨[.agg [I j.a, I j.b, I j.axis, I j.seenA, I j.errA, I j.seenB, I j.errB]], 7, false⟩), (3, ⟨[.agg [I sp.lo, I sp.hi]], 2, false⟩), (4, ⟨[.agg [B r.join, I r.at_, B r.back]], 3, false⟩)], 5, 0⟩ = some (B true) := by
  dsimp only [o5c, r5c, c5c, opsOf, zB, zo, Tryd.f13, List.drop]
  repeat' first | (intro hb; first | cases hb | skip) | ((first | apply z6 | apply zc); (· rfl); (· simp (disch := assumption) only [go_sem, Nat.reduceEqDiff, Nat.reduceAdd, bP, zd, Nat.reduceLeDiff, Nat.reduceLT, Nat.reduceMul, List.length_append, decide_eq_true_eq, z7, z0, Int.reduceToNat, Int.reduceLE, Int.reduceLT, Int.reduceBNe, Int.reduceBEq, g3, g4, g5, g6, g9, g10, g11, g16, g17, g105, g106, g107, zG, zz, only, keysO, zU, bI, ck58, ck59, q1, q2, h20, h30, bne_self_eq_false, beq_self_eq_true, zy.snapAll, zx.snapAll, zy.ids, zy.idsL, zx.ids, zx.idsL, List.length_map, Nat.zero_lt_succ, ite_self, h20m, h19, h19m, h51a, h51b, h51c, d1, d2, d3, h38, h38m, h40, h40m, h60a, h60b]; rfl); (· simp only [go_sem, Nat.reduceLT, Nat.reduceEqDiff]; rfl); (· rfl); first | (apply zb; (· simp only [go_sem, Nat.reduceLT]; rfl); (· simp only [go_sem, Nat.reduceLT]; rfl)) | (apply zf; (· simp only [go_sem, Nat.reduceLT]; rfl))) | ((first | apply z9 | apply za); (· rfl); (· simp only [go_sem, Nat.reduceLT]; rfl)) | (apply z8; (· simp only [go_sem, Nat.reduceEqDiff])) | (apply z5; (· simp only [go_sem, Nat.reduceEqDiff])) | (apply ze; (· kernel_rfl); (· kernel_rfl)) | (simp only [bW, if_true, Nat.reduceEqDiff, if_false])
  all_goals refine S25 p r s ax l h hwf hk hl hh hret hnor _ _ _ (by decide) ?_ ?_ ?_ ?_ ?_ ?_ ?_ ?_ ?_ ?_ ?_ ?_
  all_goals first | rfl | exact g4 | exact g6 | exact g9 | exact g17 | exact g257 | exact g258

theorem S5mecx {F : Exit → St → Option D} (p : Paper) (m : Mark) (j : Join) (s t ax : Int) (sp : Span) (r : Reason) (l h : Ratio) (e : Int) (hwf : p.wf) (hk : zu p ax [s] = 0) (hl : l = loF p s ax) (hh : h = hiF p s ax) (hm1 : p.marks.length ≤ 1000) (hj1 : p.joins.length ≤ 1000) (hret : ∀ st, get st.tmps 18 = B true → F .ret st = some (B true)) (hnor : ∀ st, get st.tmps 18 = B true → F .normal st = some (B true)) (h20 : (lim cfg).pure 20 [zh p, I s, I ax] = some (.tup [.agg [I l.n, I l.d], .agg [I h.n, I h.d], I 0]))
    (q1 : (lim cfg).inl 58 [.sl p.nm (p.marks.map zm) (zs p.nm 5) none] [] 7 = some (.lsl 7 0 0 5 (some 0), [(7, ⟨[], 5, false⟩)], 8)) (q2 : (lim cfg).inl 59 [.sl p.nj (p.joins.map zj) (zs p.nj 7) none] [] 8 = some (.lsl 9 0 p.joins.length 7 none, [(8, ⟨[], 7, false⟩), (9, ⟨p.joins.map zj, 7, false⟩)], 10)) (h30 : (lim cfg).pure 30 [.agg [I p.sheets, .sl false [.agg [I m.sheet, I m.axis, I m.tru, I m.seen, I m.err]] 5 none, .sl false (List.map zj p.joins) 7 none]] = some (.tup [B false, I e])) (tms : List (Nat × D)) (g3 : get tms 3 = B false) (g4 : get tms 4 = I s) (g5 : get tms 5 = I t) (g6 : get tms 6 = I ax) (g9 : get tms 9 = .lref 0 0 3 0) (g10 : get tms 10 = .lref 1 0 5 0) (g11 : get tms 11 = .lref 2 0 7 0) (g16 : get tms 16 = .lref 3 0 2 0) (g17 : get tms 17 = .lref 4 0 3 0) (g105 : get tms 105 = .agg [I p.sheets, .sl p.nm (p.marks.map zm) (zs p.nm 5) none, .sl p.nj (p.joins.map zj) (zs p.nj 7) none]) (g106 : get tms 106 = I s) (g107 : get tms 107 = I ax) :
    EvU cfg (lim cfg) 13 F o5c (o5c.toList.drop 3) [.code r5c] ⟨305, tms, [(0, ⟨[zh p], 3, false⟩), (1, ⟨[.agg [I m.sheet, I m.axis, I m.tru, I m.seen, I m.err]], 5, false⟩), (2, ⟨[.agg [I j.a, I j.b, I j.axis, I j.seenA, I j.errA, I j.seenB, I j.errB]], 7, false⟩), (3, ⟨[.agg [I sp.lo, I sp.hi]], 2, false⟩), (4, ⟨[.agg [B r.join, I r.at_, B r.back]], 3, false⟩)], 5, 0⟩ = some (B true) := by
  dsimp only [o5c, r5c, c5c, opsOf, zB, zo, Tryd.f13, List.drop]
  repeat' first | (intro hb; first | cases hb | skip) | ((first | apply z6 | apply zc); (· rfl); (· simp (disch := assumption) only [go_sem, Nat.reduceEqDiff, Nat.reduceAdd, bP, zd, Nat.reduceLeDiff, Nat.reduceLT, Nat.reduceMul, List.length_append, decide_eq_true_eq, z7, z0, Int.reduceToNat, Int.reduceLE, Int.reduceLT, Int.reduceBNe, Int.reduceBEq, g3, g4, g5, g6, g9, g10, g11, g16, g17, g105, g106, g107, zG, zz, only, keysO, zU, bI, ck58, ck59, q1, q2, h20, h30, bne_self_eq_false, beq_self_eq_true, zy.snapAll, zx.snapAll, zy.ids, zy.idsL, zx.ids, zx.idsL, List.length_map, Nat.zero_lt_succ, ite_self]; rfl); (· simp only [go_sem, Nat.reduceLT, Nat.reduceEqDiff]; rfl); (· rfl); first | (apply zb; (· simp only [go_sem, Nat.reduceLT]; rfl); (· simp only [go_sem, Nat.reduceLT]; rfl)) | (apply zf; (· simp only [go_sem, Nat.reduceLT]; rfl))) | ((first | apply z9 | apply za); (· rfl); (· simp only [go_sem, Nat.reduceLT]; rfl)) | (apply z8; (· simp only [go_sem, Nat.reduceEqDiff])) | (apply z5; (· simp only [go_sem, Nat.reduceEqDiff])) | (apply ze; (· kernel_rfl); (· kernel_rfl)) | (simp only [bW, if_true, Nat.reduceEqDiff, if_false])
  all_goals refine S25 p r s ax l h hwf hk hl hh hret hnor _ _ _ (by decide) ?_ ?_ ?_ ?_ ?_ ?_ ?_ ?_ ?_ ?_ ?_ ?_
  all_goals first | rfl | exact g4 | exact g6 | exact g9 | exact g17 | exact g257 | exact g258

theorem S5mecy {F : Exit → St → Option D} (p : Paper) (m : Mark) (j : Join) (s t ax : Int) (sp : Span) (r : Reason) (l h : Ratio) (lm hm bt bm : Ratio) (o1 o2 o3 : Int) (x1 x2 y1 y2 : Span) (hwf : p.wf) (hk : zu p ax [s] = 0) (hl : l = loF p s ax) (hh : h = hiF p s ax) (hm1 : p.marks.length ≤ 1000) (hj1 : p.joins.length ≤ 1000) (hret : ∀ st, get st.tmps 18 = B true → F .ret st = some (B true)) (hnor : ∀ st, get st.tmps 18 = B true → F .normal st = some (B true)) (h20 : (lim cfg).pure 20 [zh p, I s, I ax] = some (.tup [.agg [I l.n, I l.d], .agg [I h.n, I h.d], I 0]))
    (q1 : (lim cfg).inl 58 [.sl p.nm (p.marks.map zm) (zs p.nm 5) none] [] 7 = some (.lsl 7 0 0 5 (some 0), [(7, ⟨[], 5, false⟩)], 8)) (q2 : (lim cfg).inl 59 [.sl p.nj (p.joins.map zj) (zs p.nj 7) none] [] 8 = some (.lsl 9 0 p.joins.length 7 none, [(8, ⟨[], 7, false⟩), (9, ⟨p.joins.map zj, 7, false⟩)], 10)) (h30 : (lim cfg).pure 30 [.agg [I p.sheets, .sl false [.agg [I m.sheet, I m.axis, I m.tru, I m.seen, I m.err]] 5 none, .sl false (List.map zj p.joins) 7 none]] = some (.tup [B true, I 0])) (h20m : (lim cfg).pure 20 [.agg [I p.sheets, .sl false [.agg [I m.sheet, I m.axis, I m.tru, I m.seen, I m.err]] 5 none, .sl false (List.map zj p.joins) 7 none], I s, I ax] = some (.tup [.agg [I lm.n, I lm.d], .agg [I hm.n, I hm.d], I 0])) (h19 : (lim cfg).pure 19 [zh p, I s, I t, I ax] = some (.tup [.agg [I bt.n, I bt.d], I 0])) (h19m : (lim cfg).pure 19 [.agg [I p.sheets, .sl false [.agg [I m.sheet, I m.axis, I m.tru, I m.seen, I m.err]] 5 none, .sl false (List.map zj p.joins) 7 none], I s, I t, I ax] = some (.tup [.agg [I bm.n, I bm.d], I 0])) (h51a : (lim cfg).pure 51 [.agg [I lm.n, I lm.d], .agg [I l.n, I l.d]] = some (I o1)) (h51b : (lim cfg).pure 51 [.agg [I hm.n, I hm.d], .agg [I h.n, I h.d]] = some (I o2)) (h51c : (lim cfg).pure 51 [.agg [I bm.n, I bm.d], .agg [I bt.n, I bt.d]] = some (I o3)) (d1 : decide (o1 < 0) = false) (d2 : decide (o2 > 0) = false) (d3 : decide (o3 > 0) = false) (h38 : (lim cfg).pure 38 [zh p, I s, I ax, .agg [I sp.lo, I sp.hi]] = some (.tup [.agg [I x1.lo, I x1.hi], I 0])) (h38m : (lim cfg).pure 38 [.agg [I p.sheets, .sl false [.agg [I m.sheet, I m.axis, I m.tru, I m.seen, I m.err]] 5 none, .sl false (List.map zj p.joins) 7 none], I s, I ax, .agg [I sp.lo, I sp.hi]] = some (.tup [.agg [I x2.lo, I x2.hi], I 0])) (h40 : (lim cfg).pure 40 [zh p, I s, .agg [I sp.lo, I sp.hi]] = some (.tup [.agg [I y1.lo, I y1.hi], I 0])) (h40m : (lim cfg).pure 40 [.agg [I p.sheets, .sl false [.agg [I m.sheet, I m.axis, I m.tru, I m.seen, I m.err]] 5 none, .sl false (List.map zj p.joins) 7 none], I s, .agg [I sp.lo, I sp.hi]] = some (.tup [.agg [I y2.lo, I y2.hi], I 0])) (h60a : (lim cfg).pure 60 [.agg [I x2.lo, I x2.hi], .agg [I x1.lo, I x1.hi]] = some (B true)) (h60b : (lim cfg).pure 60 [.agg [I y2.lo, I y2.hi], .agg [I y1.lo, I y1.hi]] = some (B true)) (tms : List (Nat × D)) (g3 : get tms 3 = B false) (g4 : get tms 4 = I s) (g5 : get tms 5 = I t) (g6 : get tms 6 = I ax) (g9 : get tms 9 = .lref 0 0 3 0) (g10 : get tms 10 = .lref 1 0 5 0) (g11 : get tms 11 = .lref 2 0 7 0) (g16 : get tms 16 = .lref 3 0 2 0) (g17 : get tms 17 = .lref 4 0 3 0) (g105 : get tms 105 = .agg [I p.sheets, .sl p.nm (p.marks.map zm) (zs p.nm 5) none, .sl p.nj (p.joins.map zj) (zs p.nj 7) none]) (g106 : get tms 106 = I s) (g107 : get tms 107 = I ax) :
    EvU cfg (lim cfg) 13 F o5c (o5c.toList.drop 3) [.code r5c] ⟨305, tms, [(0, ⟨[zh p], 3, false⟩), (1, ⟨[.agg [I m.sheet, I m.axis, I m.tru, I m.seen, I m.err]], 5, false⟩), (2, ⟨[.agg [I j.a, I j.b, I j.axis, I j.seenA, I j.errA, I j.seenB, I j.errB]], 7, false⟩), (3, ⟨[.agg [I sp.lo, I sp.hi]], 2, false⟩), (4, ⟨[.agg [B r.join, I r.at_, B r.back]], 3, false⟩)], 5, 0⟩ = some (B true) := by
  dsimp only [o5c, r5c, c5c, opsOf, zB, zo, Tryd.f13, List.drop]
  repeat' first | (intro hb; first | cases hb | skip) | ((first | apply z6 | apply zc); (· rfl); (· simp (disch := assumption) only [go_sem, Nat.reduceEqDiff, Nat.reduceAdd, bP, zd, Nat.reduceLeDiff, Nat.reduceLT, Nat.reduceMul, List.length_append, decide_eq_true_eq, z7, z0, Int.reduceToNat, Int.reduceLE, Int.reduceLT, Int.reduceBNe, Int.reduceBEq, g3, g4, g5, g6, g9, g10, g11, g16, g17, g105, g106, g107, zG, zz, only, keysO, zU, bI, ck58, ck59, q1, q2, h20, h30, bne_self_eq_false, beq_self_eq_true, zy.snapAll, zx.snapAll, zy.ids, zy.idsL, zx.ids, zx.idsL, List.length_map, Nat.zero_lt_succ, ite_self, h20m, h19, h19m, h51a, h51b, h51c, d1, d2, d3, h38, h38m, h40, h40m, h60a, h60b]; rfl); (· simp only [go_sem, Nat.reduceLT, Nat.reduceEqDiff]; rfl); (· rfl); first | (apply zb; (· simp only [go_sem, Nat.reduceLT]; rfl); (· simp only [go_sem, Nat.reduceLT]; rfl)) | (apply zf; (· simp only [go_sem, Nat.reduceLT]; rfl))) | ((first | apply z9 | apply za); (· rfl); (· simp only [go_sem, Nat.reduceLT]; rfl)) | (apply z8; (· simp only [go_sem, Nat.reduceEqDiff])) | (apply z5; (· simp only [go_sem, Nat.reduceEqDiff])) | (apply ze; (· kernel_rfl); (· kernel_rfl)) | (simp only [bW, if_true, Nat.reduceEqDiff, if_false])
  all_goals refine S25 p r s ax l h hwf hk hl hh hret hnor _ _ _ (by decide) ?_ ?_ ?_ ?_ ?_ ?_ ?_ ?_ ?_ ?_ ?_ ?_
  all_goals first | rfl | exact g4 | exact g6 | exact g9 | exact g17 | exact g257 | exact g258

end Go.VS
