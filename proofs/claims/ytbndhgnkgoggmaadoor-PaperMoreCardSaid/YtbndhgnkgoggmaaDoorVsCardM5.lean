/- Nothing of a statement is proved in this text alone: it is part 5 of the proof's own tools, an evaluator of the code over deep values, its soundness, and what it makes of this seat's functions. Conditions: none beyond the statement's own. -/
import Derived.Test.YtbndhgnkgoggmaaDoorVsCardM4
import Derived.OpenShut
import Derived.Deep.Slices
import Derived.ChangeStays
import Derived.ReadAgain
import Derived.ChangeSame
import Derived.ChangeBears2
import Derived.Test.YtbndhgnkgoggmaaDoorCards
import Derived.Test.YtbndhgnkgoggmaaDoorTie
import Derived.WalkKit
import Derived.ProofKit
import Derived.Deep.DeepHandedRow
import Derived.Lib.LaidTab
set_option linter.unusedSimpArgs false
set_option linter.unusedVariables false
namespace Go.VS
open Go Go.Proofs
set_option maxHeartbeats 0
set_option linter.unusedSimpArgs false

set_option maxRecDepth 10000
theorem S5mcnx {F : Exit → St → Option D} (p : Paper) (m : Mark) (j : Join) (s t ax : Int) (sp : Span) (r : Reason) (l h : Ratio) (e : Int) (hwf : p.wf) (hk : zu p ax [s] = 0) (hl : l = loF p s ax) (hh : h = hiF p s ax) (hm1 : p.marks.length ≤ 1000) (hj1 : p.joins.length ≤ 1000) (hret : ∀ st, get st.tmps 18 = B true → F .ret st = some (B true)) (hnor : ∀ st, get st.tmps 18 = B true → F .normal st = some (B true)) (h20 : (lim cfg).pure 20 [zh p, I s, I ax] = some (.tup [.agg [I l.n, I l.d], .agg [I h.n, I h.d], I 0]))
    (q1 : (lim cfg).inl 58 [.sl p.nm (p.marks.map zm) (zs p.nm 5) none] [] 7 = some (.lsl 8 0 p.marks.length 5 none, [(7, ⟨[], 5, false⟩), (8, ⟨p.marks.map zm, 5, false⟩)], 9)) (q2 : (lim cfg).inl 59 [.sl p.nj (p.joins.map zj) (zs p.nj 7) none] [] 9 = some (.sl true [] 0 none, [], 9)) (h30 : (lim cfg).pure 30 [.agg [I p.sheets, .sl false (List.map zm p.marks ++ [.agg [I m.sheet, I m.axis, I m.tru, I m.seen, I m.err]]) 5 none, .sl true [] 0 none]] = some (.tup [B false, I e])) (tms : List (Nat × D)) (g3 : get tms 3 = B false) (g4 : get tms 4 = I s) (g5 : get tms 5 = I t) (g6 : get tms 6 = I ax) (g9 : get tms 9 = .lref 0 0 3 0) (g10 : get tms 10 = .lref 1 0 5 0) (g11 : get tms 11 = .lref 2 0 7 0) (g16 : get tms 16 = .lref 3 0 2 0) (g17 : get tms 17 = .lref 4 0 3 0) (g105 : get tms 105 = .agg [I p.sheets, .sl p.nm (p.marks.map zm) (zs p.nm 5) none, .sl p.nj (p.joins.map zj) (zs p.nj 7) none]) (g106 : get tms 106 = I s) (g107 : get tms 107 = I ax) :
    EvU cfg (lim cfg) 13 F o5c (o5c.toList.drop 3) [.code r5c] ⟨305, tms, [(0, ⟨[zh p], 3, false⟩), (1, ⟨[.agg [I m.sheet, I m.axis, I m.tru, I m.seen, I m.err]], 5, false⟩), (2, ⟨[.agg [I j.a, I j.b, I j.axis, I j.seenA, I j.errA, I j.seenB, I j.errB]], 7, false⟩), (3, ⟨[.agg [I sp.lo, I sp.hi]], 2, false⟩), (4, ⟨[.agg [B r.join, I r.at_, B r.back]], 3, false⟩)], 5, 0⟩ = some (B true) := by
  have hle : (p.marks.length + 1 ≤ p.marks.length) = False := by simp
  have hb1 : ((p.marks.length + 1) * 40 ≤ big) = True := by simp [big]; omega
  have hb2 : (p.marks.length + 1 ≤ big) = True := by simp [big]; omega
  have hsA : ∀ g n, snapAll (snap g (n + 2)) (List.map zm p.marks ++ [.agg [I m.sheet, I m.axis, I m.tru, I m.seen, I m.err]]) = some (List.map zm p.marks ++ [.agg [I m.sheet, I m.axis, I m.tru, I m.seen, I m.err]], []) := by
    intro g n
    have := zy.snapAll g n (p.marks ++ [m])
    rw [List.map_append] at this
    exact this
  have htA : List.take (p.marks.length + 1) (List.map zm p.marks ++ [.agg [I m.sheet, I m.axis, I m.tru, I m.seen, I m.err]]) = List.map zm p.marks ++ [.agg [I m.sheet, I m.axis, I m.tru, I m.seen, I m.err]] := z0 _ _
  have hok : allOk 5 (List.map zm p.marks) = true := zy.allOk _
  dsimp only [o5c, r5c, c5c, opsOf, zB, zo, Tryd.f13, List.drop]
  repeat' first | (intro hb; first | cases hb | skip) | ((first | apply z6 | apply zc); (· rfl); (· simp (disch := assumption) only [go_sem, Nat.reduceEqDiff, Nat.reduceAdd, bP, zd, Nat.reduceLeDiff, Nat.reduceLT, Nat.reduceMul, List.length_append, decide_eq_true_eq, z7, z0, Int.reduceToNat, Int.reduceLE, Int.reduceLT, Int.reduceBNe, Int.reduceBEq, g3, g4, g5, g6, g9, g10, g11, g16, g17, g105, g106, g107, zG, zz, only, keysO, zU, bI, ck58, ck59, q1, q2, h20, h30, bne_self_eq_false, beq_self_eq_true, zy.snapAll, zx.snapAll, zy.ids, zy.idsL, zx.ids, zx.idsL, List.length_map, Nat.zero_lt_succ, ite_self, hle, hb1, hb2, hsA, htA, hok]; rfl); (· simp only [go_sem, Nat.reduceLT, Nat.reduceEqDiff]; rfl); (· rfl); first | (apply zb; (· simp only [go_sem, Nat.reduceLT]; rfl); (· simp only [go_sem, Nat.reduceLT]; rfl)) | (apply zf; (· simp only [go_sem, Nat.reduceLT]; rfl))) | ((first | apply z9 | apply za); (· rfl); (· simp only [go_sem, Nat.reduceLT]; rfl)) | (apply z8; (· simp only [go_sem, Nat.reduceEqDiff])) | (apply z5; (· simp only [go_sem, Nat.reduceEqDiff])) | (apply ze; (· kernel_rfl); (· kernel_rfl)) | (simp only [bW, if_true, Nat.reduceEqDiff, if_false])
  all_goals refine S25 p r s ax l h hwf hk hl hh hret hnor _ _ _ (by decide) ?_ ?_ ?_ ?_ ?_ ?_ ?_ ?_ ?_ ?_ ?_ ?_
  all_goals first | rfl | exact g4 | exact g6 | exact g9 | exact g17 | exact g257 | exact g258

theorem S5mcny {F : Exit → St → Option D} (p : Paper) (m : Mark) (j : Join) (s t ax : Int) (sp : Span) (r : Reason) (l h : Ratio) (lm hm bt bm : Ratio) (o1 o2 o3 : Int) (x1 x2 y1 y2 : Span) (hwf : p.wf) (hk : zu p ax [s] = 0) (hl : l = loF p s ax) (hh : h = hiF p s ax) (hm1 : p.marks.length ≤ 1000) (hj1 : p.joins.length ≤ 1000) (hret : ∀ st, get st.tmps 18 = B true → F .ret st = some (B true)) (hnor : ∀ st, get st.tmps 18 = B true → F .normal st = some (B true)) (h20 : (lim cfg).pure 20 [zh p, I s, I ax] = some (.tup [.agg [I l.n, I l.d], .agg [I h.n, I h.d], I 0]))
    (q1 : (lim cfg).inl 58 [.sl p.nm (p.marks.map zm) (zs p.nm 5) none] [] 7 = some (.lsl 8 0 p.marks.length 5 none, [(7, ⟨[], 5, false⟩), (8, ⟨p.marks.map zm, 5, false⟩)], 9)) (q2 : (lim cfg).inl 59 [.sl p.nj (p.joins.map zj) (zs p.nj 7) none] [] 9 = some (.sl true [] 0 none, [], 9)) (h30 : (lim cfg).pure 30 [.agg [I p.sheets, .sl false (List.map zm p.marks ++ [.agg [I m.sheet, I m.axis, I m.tru, I m.seen, I m.err]]) 5 none, .sl true [] 0 none]] = some (.tup [B true, I 0])) (h20m : (lim cfg).pure 20 [.agg [I p.sheets, .sl false (List.map zm p.marks ++ [.agg [I m.sheet, I m.axis, I m.tru, I m.seen, I m.err]]) 5 none, .sl true [] 0 none], I s, I ax] = some (.tup [.agg [I lm.n, I lm.d], .agg [I hm.n, I hm.d], I 0])) (h19 : (lim cfg).pure 19 [zh p, I s, I t, I ax] = some (.tup [.agg [I bt.n, I bt.d], I 0])) (h19m : (lim cfg).pure 19 [.agg [I p.sheets, .sl false (List.map zm p.marks ++ [.agg [I m.sheet, I m.axis, I m.tru, I m.seen, I m.err]]) 5 none, .sl true [] 0 none], I s, I t, I ax] = some (.tup [.agg [I bm.n, I bm.d], I 0])) (h51a : (lim cfg).pure 51 [.agg [I lm.n, I lm.d], .agg [I l.n, I l.d]] = some (I o1)) (h51b : (lim cfg).pure 51 [.agg [I hm.n, I hm.d], .agg [I h.n, I h.d]] = some (I o2)) (h51c : (lim cfg).pure 51 [.agg [I bm.n, I bm.d], .agg [I bt.n, I bt.d]] = some (I o3)) (d1 : decide (o1 < 0) = false) (d2 : decide (o2 > 0) = false) (d3 : decide (o3 > 0) = false) (h38 : (lim cfg).pure 38 [zh p, I s, I ax, .agg [I sp.lo, I sp.hi]] = some (.tup [.agg [I x1.lo, I x1.hi], I 0])) (h38m : (lim cfg).pure 38 [.agg [I p.sheets, .sl false (List.map zm p.marks ++ [.agg [I m.sheet, I m.axis, I m.tru, I m.seen, I m.err]]) 5 none, .sl true [] 0 none], I s, I ax, .agg [I sp.lo, I sp.hi]] = some (.tup [.agg [I x2.lo, I x2.hi], I 0])) (h40 : (lim cfg).pure 40 [zh p, I s, .agg [I sp.lo, I sp.hi]] = some (.tup [.agg [I y1.lo, I y1.hi], I 0])) (h40m : (lim cfg).pure 40 [.agg [I p.sheets, .sl false (List.map zm p.marks ++ [.agg [I m.sheet, I m.axis, I m.tru, I m.seen, I m.err]]) 5 none, .sl true [] 0 none], I s, .agg [I sp.lo, I sp.hi]] = some (.tup [.agg [I y2.lo, I y2.hi], I 0])) (h60a : (lim cfg).pure 60 [.agg [I x2.lo, I x2.hi], .agg [I x1.lo, I x1.hi]] = some (B true)) (h60b : (lim cfg).pure 60 [.agg [I y2.lo, I y2.hi], .agg [I y1.lo, I y1.hi]] = some (B true)) (tms : List (Nat × D)) (g3 : get tms 3 = B false) (g4 : get tms 4 = I s) (g5 : get tms 5 = I t) (g6 : get tms 6 = I ax) (g9 : get tms 9 = .lref 0 0 3 0) (g10 : get tms 10 = .lref 1 0 5 0) (g11 : get tms 11 = .lref 2 0 7 0) (g16 : get tms 16 = .lref 3 0 2 0) (g17 : get tms 17 = .lref 4 0 3 0) (g105 : get tms 105 = .agg [I p.sheets, .sl p.nm (p.marks.map zm) (zs p.nm 5) none, .sl p.nj (p.joins.map zj) (zs p.nj 7) none]) (g106 : get tms 106 = I s) (g107 : get tms 107 = I ax) :
    EvU cfg (lim cfg) 13 F o5c (o5c.toList.drop 3) [.code r5c] ⟨305, tms, [(0, ⟨[zh p], 3, false⟩), (1, ⟨[.agg [I m.sheet, I m.axis, I m.tru, I m.seen, I m.err]], 5, false⟩), (2, ⟨[.agg [I j.a, I j.b, I j.axis, I j.seenA, I j.errA, I j.seenB, I j.errB]], 7, false⟩), (3, ⟨[.agg [I sp.lo, I sp.hi]], 2, false⟩), (4, ⟨[.agg [B r.join, I r.at_, B r.back]], 3, false⟩)], 5, 0⟩ = some (B true) := by
  have hle : (p.marks.length + 1 ≤ p.marks.length) = False := by simp
  have hb1 : ((p.marks.length + 1) * 40 ≤ big) = True := by simp [big]; omega
  have hb2 : (p.marks.length + 1 ≤ big) = True := by simp [big]; omega
  have hsA : ∀ g n, snapAll (snap g (n + 2)) (List.map zm p.marks ++ [.agg [I m.sheet, I m.axis, I m.tru, I m.seen, I m.err]]) = some (List.map zm p.marks ++ [.agg [I m.sheet, I m.axis, I m.tru, I m.seen, I m.err]], []) := by
    intro g n
    have := zy.snapAll g n (p.marks ++ [m])
    rw [List.map_append] at this
    exact this
  have htA : List.take (p.marks.length + 1) (List.map zm p.marks ++ [.agg [I m.sheet, I m.axis, I m.tru, I m.seen, I m.err]]) = List.map zm p.marks ++ [.agg [I m.sheet, I m.axis, I m.tru, I m.seen, I m.err]] := z0 _ _
  have hok : allOk 5 (List.map zm p.marks) = true := zy.allOk _
  dsimp only [o5c, r5c, c5c, opsOf, zB, zo, Tryd.f13, List.drop]
  repeat' first | (intro hb; first | cases hb | skip) | ((first | apply z6 | apply zc); (· rfl); (· simp (disch := assumption) only [go_sem, Nat.reduceEqDiff, Nat.reduceAdd, bP, zd, Nat.reduceLeDiff, Nat.reduceLT, Nat.reduceMul, List.length_append, decide_eq_true_eq, z7, z0, Int.reduceToNat, Int.reduceLE, Int.reduceLT, Int.reduceBNe, Int.reduceBEq, g3, g4, g5, g6, g9, g10, g11, g16, g17, g105, g106, g107, zG, zz, only, keysO, zU, bI, ck58, ck59, q1, q2, h20, h30, bne_self_eq_false, beq_self_eq_true, zy.snapAll, zx.snapAll, zy.ids, zy.idsL, zx.ids, zx.idsL, List.length_map, Nat.zero_lt_succ, ite_self, hle, hb1, hb2, hsA, htA, hok, h20m, h19, h19m, h51a, h51b, h51c, d1, d2, d3, h38, h38m, h40, h40m, h60a, h60b]; rfl); (· simp only [go_sem, Nat.reduceLT, Nat.reduceEqDiff]; rfl); (· rfl); first | (apply zb; (· simp only [go_sem, Nat.reduceLT]; rfl); (· simp only [go_sem, Nat.reduceLT]; rfl)) | (apply zf; (· simp only [go_sem, Nat.reduceLT]; rfl))) | ((first | apply z9 | apply za); (· rfl); (· simp only [go_sem, Nat.reduceLT]; rfl)) | (apply z8; (· simp only [go_sem, Nat.reduceEqDiff])) | (apply z5; (· simp only [go_sem, Nat.reduceEqDiff])) | (apply ze; (· kernel_rfl); (· kernel_rfl)) | (simp only [bW, if_true, Nat.reduceEqDiff, if_false])
  all_goals refine S25 p r s ax l h hwf hk hl hh hret hnor _ _ _ (by decide) ?_ ?_ ?_ ?_ ?_ ?_ ?_ ?_ ?_ ?_ ?_ ?_
  all_goals first | rfl | exact g4 | exact g6 | exact g9 | exact g17 | exact g257 | exact g258

theorem S5mcex {F : Exit → St → Option D} (p : Paper) (m : Mark) (j : Join) (s t ax : Int) (sp : Span) (r : Reason) (l h : Ratio) (e : Int) (hwf : p.wf) (hk : zu p ax [s] = 0) (hl : l = loF p s ax) (hh : h = hiF p s ax) (hm1 : p.marks.length ≤ 1000) (hj1 : p.joins.length ≤ 1000) (hret : ∀ st, get st.tmps 18 = B true → F .ret st = some (B true)) (hnor : ∀ st, get st.tmps 18 = B true → F .normal st = some (B true)) (h20 : (lim cfg).pure 20 [zh p, I s, I ax] = some (.tup [.agg [I l.n, I l.d], .agg [I h.n, I h.d], I 0]))
    (q1 : (lim cfg).inl 58 [.sl p.nm (p.marks.map zm) (zs p.nm 5) none] [] 7 = some (.lsl 8 0 p.marks.length 5 none, [(7, ⟨[], 5, false⟩), (8, ⟨p.marks.map zm, 5, false⟩)], 9)) (q2 : (lim cfg).inl 59 [.sl p.nj (p.joins.map zj) (zs p.nj 7) none] [] 9 = some (.lsl 9 0 0 7 (some 0), [(9, ⟨[], 7, false⟩)], 10)) (h30 : (lim cfg).pure 30 [.agg [I p.sheets, .sl false (List.map zm p.marks ++ [.agg [I m.sheet, I m.axis, I m.tru, I m.seen, I m.err]]) 5 none, .sl false [] 7 none]] = some (.tup [B false, I e])) (tms : List (Nat × D)) (g3 : get tms 3 = B false) (g4 : get tms 4 = I s) (g5 : get tms 5 = I t) (g6 : get tms 6 = I ax) (g9 : get tms 9 = .lref 0 0 3 0) (g10 : get tms 10 = .lref 1 0 5 0) (g11 : get tms 11 = .lref 2 0 7 0) (g16 : get tms 16 = .lref 3 0 2 0) (g17 : get tms 17 = .lref 4 0 3 0) (g105 : get tms 105 = .agg [I p.sheets, .sl p.nm (p.marks.map zm) (zs p.nm 5) none, .sl p.nj (p.joins.map zj) (zs p.nj 7) none]) (g106 : get tms 106 = I s) (g107 : get tms 107 = I ax) :
    EvU cfg (lim cfg) 13 F o5c (o5c.toList.drop 3) [.code r5c] ⟨305, tms, [(0, ⟨[zh p], 3, false⟩), (1, ⟨[.agg [I m.sheet, I m.axis, I m.tru, I m.seen, I m.err]], 5, false⟩), (2, ⟨[.agg [I j.a, I j.b, I j.axis, I j.seenA, I j.errA, I j.seenB, I j.errB]], 7, false⟩), (3, ⟨[.agg [I sp.lo, I sp.hi]], 2, false⟩), (4, ⟨[.agg [B r.join, I r.at_, B r.back]], 3, false⟩)], 5, 0⟩ = some (B true) := by
  have hle : (p.marks.length + 1 ≤ p.marks.length) = False := by simp
  have hb1 : ((p.marks.length + 1) * 40 ≤ big) = True := by simp [big]; omega
  have hb2 : (p.marks.length + 1 ≤ big) = True := by simp [big]; omega
  have hsA : ∀ g n, snapAll (snap g (n + 2)) (List.map zm p.marks ++ [.agg [I m.sheet, I m.axis, I m.tru, I m.seen, I m.err]]) = some (List.map zm p.marks ++ [.agg [I m.sheet, I m.axis, I m.tru, I m.seen, I m.err]], []) := by
    intro g n
    have := zy.snapAll g n (p.marks ++ [m])
    rw [List.map_append] at this
    exact this
  have htA : List.take (p.marks.length + 1) (List.map zm p.marks ++ [.agg [I m.sheet, I m.axis, I m.tru, I m.seen, I m.err]]) = List.map zm p.marks ++ [.agg [I m.sheet, I m.axis, I m.tru, I m.seen, I m.err]] := z0 _ _
  have hok : allOk 5 (List.map zm p.marks) = true := zy.allOk _
  dsimp only [o5c, r5c, c5c, opsOf, zB, zo, Tryd.f13, List.drop]
  repeat' first | (intro hb; first | cases hb | skip) | ((first | apply z6 | apply zc); (· rfl); (· simp (disch := assumption) only [go_sem, Nat.reduceEqDiff, Nat.reduceAdd, bP, zd, Nat.reduceLeDiff, Nat.reduceLT, Nat.reduceMul, List.length_append, decide_eq_true_eq, z7, z0, Int.reduceToNat, Int.reduceLE, Int.reduceLT, Int.reduceBNe, Int.reduceBEq, g3, g4, g5, g6, g9, g10, g11, g16, g17, g105, g106, g107, zG, zz, only, keysO, zU, bI, ck58, ck59, q1, q2, h20, h30, bne_self_eq_false, beq_self_eq_true, zy.snapAll, zx.snapAll, zy.ids, zy.idsL, zx.ids, zx.idsL, List.length_map, Nat.zero_lt_succ, ite_self, hle, hb1, hb2, hsA, htA, hok]; rfl); (· simp only [go_sem, Nat.reduceLT, Nat.reduceEqDiff]; rfl); (· rfl); first | (apply zb; (· simp only [go_sem, Nat.reduceLT]; rfl); (· simp only [go_sem, Nat.reduceLT]; rfl)) | (apply zf; (· simp only [go_sem, Nat.reduceLT]; rfl))) | ((first | apply z9 | apply za); (· rfl); (· simp only [go_sem, Nat.reduceLT]; rfl)) | (apply z8; (· simp only [go_sem, Nat.reduceEqDiff])) | (apply z5; (· simp only [go_sem, Nat.reduceEqDiff])) | (apply ze; (· kernel_rfl); (· kernel_rfl)) | (simp only [bW, if_true, Nat.reduceEqDiff, if_false])
  all_goals refine S25 p r s ax l h hwf hk hl hh hret hnor _ _ _ (by decide) ?_ ?_ ?_ ?_ ?_ ?_ ?_ ?_ ?_ ?_ ?_ ?_
  all_goals first | rfl | exact g4 | exact g6 | exact g9 | exact g17 | exact g257 | exact g258

theorem S5mcey {F : Exit → St → Option D} (p : Paper) (m : Mark) (j : Join) (s t ax : Int) (sp : Span) (r : Reason) (l h : Ratio) (lm hm bt bm : Ratio) (o1 o2 o3 : Int) (x1 x2 y1 y2 : Span) (hwf : p.wf) (hk : zu p ax [s] = 0) (hl : l = loF p s ax) (hh : h = hiF p s ax) (hm1 : p.marks.length ≤ 1000) (hj1 : p.joins.length ≤ 1000) (hret : ∀ st, get st.tmps 18 = B true → F .ret st = some (B true)) (hnor : ∀ st, get st.tmps 18 = B true → F .normal st = some (B true)) (h20 : (lim cfg).pure 20 [zh p, I s, I ax] = some (.tup [.agg [I l.n, I l.d], .agg [I h.n, I h.d], I 0]))
    (q1 : (lim cfg).inl 58 [.sl p.nm (p.marks.map zm) (zs p.nm 5) none] [] 7 = some (.lsl 8 0 p.marks.length 5 none, [(7, ⟨[], 5, false⟩), (8, ⟨p.marks.map zm, 5, false⟩)], 9)) (q2 : (lim cfg).inl 59 [.sl p.nj (p.joins.map zj) (zs p.nj 7) none] [] 9 = some (.lsl 9 0 0 7 (some 0), [(9, ⟨[], 7, false⟩)], 10)) (h30 : (lim cfg).pure 30 [.agg [I p.sheets, .sl false (List.map zm p.marks ++ [.agg [I m.sheet, I m.axis, I m.tru, I m.seen, I m.err]]) 5 none, .sl false [] 7 none]] = some (.tup [B true, I 0])) (h20m : (lim cfg).pure 20 [.agg [I p.sheets, .sl false (List.map zm p.marks ++ [.agg [I m.sheet, I m.axis, I m.tru, I m.seen, I m.err]]) 5 none, .sl false [] 7 none], I s, I ax] = some (.tup [.agg [I lm.n, I lm.d], .agg [I hm.n, I hm.d], I 0])) (h19 : (lim cfg).pure 19 [zh p, I s, I t, I ax] = some (.tup [.agg [I bt.n, I bt.d], I 0])) (h19m : (lim cfg).pure 19 [.agg [I p.sheets, .sl false (List.map zm p.marks ++ [.agg [I m.sheet, I m.axis, I m.tru, I m.seen, I m.err]]) 5 none, .sl false [] 7 none], I s, I t, I ax] = some (.tup [.agg [I bm.n, I bm.d], I 0])) (h51a : (lim cfg).pure 51 [.agg [I lm.n, I lm.d], .agg [I l.n, I l.d]] = some (I o1)) (h51b : (lim cfg).pure 51 [.agg [I hm.n, I hm.d], .agg [I h.n, I h.d]] = some (I o2)) (h51c : (lim cfg).pure 51 [.agg [I bm.n, I bm.d], .agg [I bt.n, I bt.d]] = some (I o3)) (d1 : decide (o1 < 0) = false) (d2 : decide (o2 > 0) = false) (d3 : decide (o3 > 0) = false) (h38 : (lim cfg).pure 38 [zh p, I s, I ax, .agg [I sp.lo, I sp.hi]] = some (.tup [.agg [I x1.lo, I x1.hi], I 0])) (h38m : (lim cfg).pure 38 [.agg [I p.sheets, .sl false (List.map zm p.marks ++ [.agg [I m.sheet, I m.axis, I m.tru, I m.seen, I m.err]]) 5 none, .sl false [] 7 none], I s, I ax, .agg [I sp.lo, I sp.hi]] = some (.tup [.agg [I x2.lo, I x2.hi], I 0])) (h40 : (lim cfg).pure 40 [zh p, I s, .agg [I sp.lo, I sp.hi]] = some (.tup [.agg [I y1.lo, I y1.hi], I 0])) (h40m : (lim cfg).pure 40 [.agg [I p.sheets, .sl false (List.map zm p.marks ++ [.agg [I m.sheet, I m.axis, I m.tru, I m.seen, I m.err]]) 5 none, .sl false [] 7 none], I s, .agg [I sp.lo, I sp.hi]] = some (.tup [.agg [I y2.lo, I y2.hi], I 0])) (h60a : (lim cfg).pure 60 [.agg [I x2.lo, I x2.hi], .agg [I x1.lo, I x1.hi]] = some (B true)) (h60b : (lim cfg).pure 60 [.agg [I y2.lo, I y2.hi], .agg [I y1.lo, I y1.hi]] = some (B true)) (tms : List (Nat × D)) (g3 : get tms 3 = B false) (g4 : get tms 4 = I s) (g5 : get tms 5 = I t) (g6 : get tms 6 = I ax) (g9 : get tms 9 = .lref 0 0 3 0) (g10 : get tms 10 = .lref 1 0 5 0) (g11 : get tms 11 = .lref 2 0 7 0) (g16 : get tms 16 = .lref 3 0 2 0) (g17 : get tms 17 = .lref 4 0 3 0) (g105 : get tms 105 = .agg [I p.sheets, .sl p.nm (p.marks.map zm) (zs p.nm 5) none, .sl p.nj (p.joins.map zj) (zs p.nj 7) none]) (g106 : get tms 106 = I s) (g107 : get tms 107 = I ax) :
    EvU cfg (lim cfg) 13 F o5c (o5c.toList.drop 3) [.code r5c] ⟨305, tms, [(0, ⟨[zh p], 3, false⟩), (1, ⟨[.agg [I m.sheet, I m.axis, I m.tru, I m.seen, I m.err]], 5, false⟩), (2, ⟨[.agg [I j.a, I j.b, I j.axis, I j.seenA, I j.errA, I j.seenB, I j.errB]], 7, false⟩), (3, ⟨[.agg [I sp.lo, I sp.hi]], 2, false⟩), (4, ⟨[.agg [B r.join, I r.at_, B r.back]], 3, false⟩)], 5, 0⟩ = some (B true) := by
  have hle : (p.marks.length + 1 ≤ p.marks.length) = False := by simp
  have hb1 : ((p.marks.length + 1) * 40 ≤ big) = True := by simp [big]; omega
  have hb2 : (p.marks.length + 1 ≤ big) = True := by simp [big]; omega
  have hsA : ∀ g n, snapAll (snap g (n + 2)) (List.map zm p.marks ++ [.agg [I m.sheet, I m.axis, I m.tru, I m.seen, I m.err]]) = some (List.map zm p.marks ++ [.agg [I m.sheet, I m.axis, I m.tru, I m.seen, I m.err]], []) := by
    intro g n
    have := zy.snapAll g n (p.marks ++ [m])
    rw [List.map_append] at this
    exact this
  have htA : List.take (p.marks.length + 1) (List.map zm p.marks ++ [.agg [I m.sheet, I m.axis, I m.tru, I m.seen, I m.err]]) = List.map zm p.marks ++ [.agg [I m.sheet, I m.axis, I m.tru, I m.seen, I m.err]] := z0 _ _
  have hok : allOk 5 (List.map zm p.marks) = true := zy.allOk _
  dsimp only [o5c, r5c, c5c, opsOf, zB, zo, Tryd.f13, List.drop]
  repeat' first | (intro hb; first | cases hb | skip) | ((first | apply z6 | apply zc); (· rfl); (· simp (disch := assumption) only [go_sem, Nat.reduceEqDiff, Nat.reduceAdd, bP, zd, Nat.reduceLeDiff, Nat.reduceLT, Nat.reduceMul, List.length_append, decide_eq_true_eq, z7, z0, Int.reduceToNat, Int.reduceLE, Int.reduceLT, Int.reduceBNe, Int.reduceBEq, g3, g4, g5, g6, g9, g10, g11, g16, g17, g105, g106, g107, zG, zz, only, keysO, zU, bI, ck58, ck59, q1, q2, h20, h30, bne_self_eq_false, beq_self_eq_true, zy.snapAll, zx.snapAll, zy.ids, zy.idsL, zx.ids, zx.idsL, List.length_map, Nat.zero_lt_succ, ite_self, hle, hb1, hb2, hsA, htA, hok, h20m, h19, h19m, h51a, h51b, h51c, d1, d2, d3, h38, h38m, h40, h40m, h60a, h60b]; rfl); (· simp only [go_sem, Nat.reduceLT, Nat.reduceEqDiff]; rfl); (· rfl); first | (apply zb; (· simp only [go_sem, Nat.reduceLT]; rfl); (· simp only [go_sem, Nat.reduceLT]; rfl)) | (apply zf; (· simp only [go_sem, Nat.reduceLT]; rfl))) | ((first | apply z9 | apply za); (· rfl); (· simp only [go_sem, Nat.reduceLT]; rfl)) | (apply z8; (· simp only [go_sem, Nat.reduceEqDiff])) | (apply z5; (· simp only [go_sem, Nat.reduceEqDiff])) | (apply ze; (· kernel_rfl); (· kernel_rfl)) | (simp only [bW, if_true, Nat.reduceEqDiff, if_false])
  all_goals refine S25 p r s ax l h hwf hk hl hh hret hnor _ _ _ (by decide) ?_ ?_ ?_ ?_ ?_ ?_ ?_ ?_ ?_ ?_ ?_ ?_
  all_goals first | rfl | exact g4 | exact g6 | exact g9 | exact g17 | exact g257 | exact g258

theorem S5mccx {F : Exit → St → Option D} (p : Paper) (m : Mark) (j : Join) (s t ax : Int) (sp : Span) (r : Reason) (l h : Ratio) (e : Int) (hwf : p.wf) (hk : zu p ax [s] = 0) (hl : l = loF p s ax) (hh : h = hiF p s ax) (hm1 : p.marks.length ≤ 1000) (hj1 : p.joins.length ≤ 1000) (hret : ∀ st, get st.tmps 18 = B true → F .ret st = some (B true)) (hnor : ∀ st, get st.tmps 18 = B true → F .normal st = some (B true)) (h20 : (lim cfg).pure 20 [zh p, I s, I ax] = some (.tup [.agg [I l.n, I l.d], .agg [I h.n, I h.d], I 0]))
    (q1 : (lim cfg).inl 58 [.sl p.nm (p.marks.map zm) (zs p.nm 5) none] [] 7 = some (.lsl 8 0 p.marks.length 5 none, [(7, ⟨[], 5, false⟩), (8, ⟨p.marks.map zm, 5, false⟩)], 9)) (q2 : (lim cfg).inl 59 [.sl p.nj (p.joins.map zj) (zs p.nj 7) none] [] 9 = some (.lsl 10 0 p.joins.length 7 none, [(9, ⟨[], 7, false⟩), (10, ⟨p.joins.map zj, 7, false⟩)], 11)) (h30 : (lim cfg).pure 30 [.agg [I p.sheets, .sl false (List.map zm p.marks ++ [.agg [I m.sheet, I m.axis, I m.tru, I m.seen, I m.err]]) 5 none, .sl false (List.map zj p.joins) 7 none]] = some (.tup [B false, I e])) (tms : List (Nat × D)) (g3 : get tms 3 = B false) (g4 : get tms 4 = I s) (g5 : get tms 5 = I t) (g6 : get tms 6 = I ax) (g9 : get tms 9 = .lref 0 0 3 0) (g10 : get tms 10 = .lref 1 0 5 0) (g11 : get tms 11 = .lref 2 0 7 0) (g16 : get tms 16 = .lref 3 0 2 0) (g17 : get tms 17 = .lref 4 0 3 0) (g105 : get tms 105 = .agg [I p.sheets, .sl p.nm (p.marks.map zm) (zs p.nm 5) none, .sl p.nj (p.joins.map zj) (zs p.nj 7) none]) (g106 : get tms 106 = I s) (g107 : get tms 107 = I ax) :
    EvU cfg (lim cfg) 13 F o5c (o5c.toList.drop 3) [.code r5c] ⟨305, tms, [(0, ⟨[zh p], 3, false⟩), (1, ⟨[.agg [I m.sheet, I m.axis, I m.tru, I m.seen, I m.err]], 5, false⟩), (2, ⟨[.agg [I j.a, I j.b, I j.axis, I j.seenA, I j.errA, I j.seenB, I j.errB]], 7, false⟩), (3, ⟨[.agg [I sp.lo, I sp.hi]], 2, false⟩), (4, ⟨[.agg [B r.join, I r.at_, B r.back]], 3, false⟩)], 5, 0⟩ = some (B true) := by
  have hle : (p.marks.length + 1 ≤ p.marks.length) = False := by simp
  have hb1 : ((p.marks.length + 1) * 40 ≤ big) = True := by simp [big]; omega
  have hb2 : (p.marks.length + 1 ≤ big) = True := by simp [big]; omega
  have hsA : ∀ g n, snapAll (snap g (n + 2)) (List.map zm p.marks ++ [.agg [I m.sheet, I m.axis, I m.tru, I m.seen, I m.err]]) = some (List.map zm p.marks ++ [.agg [I m.sheet, I m.axis, I m.tru, I m.seen, I m.err]], []) := by
    intro g n
    have := zy.snapAll g n (p.marks ++ [m])
    rw [List.map_append] at this
    exact this
  have htA : List.take (p.marks.length + 1) (List.map zm p.marks ++ [.agg [I m.sheet, I m.axis, I m.tru, I m.seen, I m.err]]) = List.map zm p.marks ++ [.agg [I m.sheet, I m.axis, I m.tru, I m.seen, I m.err]] := z0 _ _
  have hok : allOk 5 (List.map zm p.marks) = true := zy.allOk _
  dsimp only [o5c, r5c, c5c, opsOf, zB, zo, Tryd.f13, List.drop]
  repeat' first | (intro hb; first | cases hb | skip) | ((first | apply z6 | apply zc); (· rfl); (· simp (disch := assumption) only [go_sem, Nat.reduceEqDiff, Nat.reduceAdd, bP, zd, Nat.reduceLeDiff, Nat.reduceLT, Nat.reduceMul, List.length_append, decide_eq_true_eq, z7, z0, Int.reduceToNat, Int.reduceLE, Int.reduceLT, Int.reduceBNe, Int.reduceBEq, g3, g4, g5, g6, g9, g10, g11, g16, g17, g105, g106, g107, zG, zz, only, keysO, zU, bI, ck58, ck59, q1, q2, h20, h30, bne_self_eq_false, beq_self_eq_true, zy.snapAll, zx.snapAll, zy.ids, zy.idsL, zx.ids, zx.idsL, List.length_map, Nat.zero_lt_succ, ite_self, hle, hb1, hb2, hsA, htA, hok]; rfl); (· simp only [go_sem, Nat.reduceLT, Nat.reduceEqDiff]; rfl); (· rfl); first | (apply zb; (· simp only [go_sem, Nat.reduceLT]; rfl); (· simp only [go_sem, Nat.reduceLT]; rfl)) | (apply zf; (· simp only [go_sem, Nat.reduceLT]; rfl))) | ((first | apply z9 | apply za); (· rfl); (· simp only [go_sem, Nat.reduceLT]; rfl)) | (apply z8; (· simp only [go_sem, Nat.reduceEqDiff])) | (apply z5; (· simp only [go_sem, Nat.reduceEqDiff])) | (apply ze; (· kernel_rfl); (· kernel_rfl)) | (simp only [bW, if_true, Nat.reduceEqDiff, if_false])
  all_goals refine S25 p r s ax l h hwf hk hl hh hret hnor _ _ _ (by decide) ?_ ?_ ?_ ?_ ?_ ?_ ?_ ?_ ?_ ?_ ?_ ?_
  all_goals first | rfl | exact g4 | exact g6 | exact g9 | exact g17 | exact g257 | exact g258

theorem S5mccy {F : Exit → St → Option D} (p : Paper) (m : Mark) (j : Join) (s t ax : Int) (sp : Span) (r : Reason) (l h : Ratio) (lm hm bt bm : Ratio) (o1 o2 o3 : Int) (x1 x2 y1 y2 : Span) (hwf : p.wf) (hk : zu p ax [s] = 0) (hl : l = loF p s ax) (hh : h = hiF p s ax) (hm1 : p.marks.length ≤ 1000) (hj1 : p.joins.length ≤ 1000) (hret : ∀ st, get st.tmps 18 = B true → F .ret st = some (B true)) (hnor : ∀ st, get st.tmps 18 = B true → F .normal st = some (B true)) (h20 : (lim cfg).pure 20 [zh p, I s, I ax] = some (.tup [.agg [I l.n, I l.d], .agg [I h.n, I h.d], I 0]))
    (q1 : (lim cfg).inl 58 [.sl p.nm (p.marks.map zm) (zs p.nm 5) none] [] 7 = some (.lsl 8 0 p.marks.length 5 none, [(7, ⟨[], 5, false⟩), (8, ⟨p.marks.map zm, 5, false⟩)], 9)) (q2 : (lim cfg).inl 59 [.sl p.nj (p.joins.map zj) (zs p.nj 7) none] [] 9 = some (.lsl 10 0 p.joins.length 7 none, [(9, ⟨[], 7, false⟩), (10, ⟨p.joins.map zj, 7, false⟩)], 11)) (h30 : (lim cfg).pure 30 [.agg [I p.sheets, .sl false (List.map zm p.marks ++ [.agg [I m.sheet, I m.axis, I m.tru, I m.seen, I m.err]]) 5 none, .sl false (List.map zj p.joins) 7 none]] = some (.tup [B true, I 0])) (h20m : (lim cfg).pure 20 [.agg [I p.sheets, .sl false (List.map zm p.marks ++ [.agg [I m.sheet, I m.axis, I m.tru, I m.seen, I m.err]]) 5 none, .sl false (List.map zj p.joins) 7 none], I s, I ax] = some (.tup [.agg [I lm.n, I lm.d], .agg [I hm.n, I hm.d], I 0])) (h19 : (lim cfg).pure 19 [zh p, I s, I t, I ax] = some (.tup [.agg [I bt.n, I bt.d], I 0])) (h19m : (lim cfg).pure 19 [.agg [I p.sheets, .sl false (List.map zm p.marks ++ [.agg [I m.sheet, I m.axis, I m.tru, I m.seen, I m.err]]) 5 none, .sl false (List.map zj p.joins) 7 none], I s, I t, I ax] = some (.tup [.agg [I bm.n, I bm.d], I 0])) (h51a : (lim cfg).pure 51 [.agg [I lm.n, I lm.d], .agg [I l.n, I l.d]] = some (I o1)) (h51b : (lim cfg).pure 51 [.agg [I hm.n, I hm.d], .agg [I h.n, I h.d]] = some (I o2)) (h51c : (lim cfg).pure 51 [.agg [I bm.n, I bm.d], .agg [I bt.n, I bt.d]] = some (I o3)) (d1 : decide (o1 < 0) = false) (d2 : decide (o2 > 0) = false) (d3 : decide (o3 > 0) = false) (h38 : (lim cfg).pure 38 [zh p, I s, I ax, .agg [I sp.lo, I sp.hi]] = some (.tup [.agg [I x1.lo, I x1.hi], I 0])) (h38m : (lim cfg).pure 38 [.agg [I p.sheets, .sl false (List.map zm p.marks ++ [.agg [I m.sheet, I m.axis, I m.tru, I m.seen, I m.err]]) 5 none, .sl false (List.map zj p.joins) 7 none], I s, I ax, .agg [I sp.lo, I sp.hi]] = some (.tup [.agg [I x2.lo, I x2.hi], I 0])) (h40 : (lim cfg).pure 40 [zh p, I s, .agg [I sp.lo, I sp.hi]] = some (.tup [.agg [I y1.lo, I y1.hi], I 0])) (h40m : (lim cfg).pure 40 [.agg [I p.sheets, .sl false (List.map zm p.marks ++ [.agg [I m.sheet, I m.axis, I m.tru, I m.seen, I m.err]]) 5 none, .sl false (List.map zj p.joins) 7 none], I s, .agg [I sp.lo, I sp.hi]] = some (.tup [.agg [I y2.lo, I y2.hi], I 0])) (h60a : (lim cfg).pure 60 [.agg [I x2.lo, I x2.hi], .agg [I x1.lo, I x1.hi]] = some (B true)) (h60b : (lim cfg).pure 60 [.agg [I y2.lo, I y2.hi], .agg [I y1.lo, I y1.hi]] = some (B true)) (tms : List (Nat × D)) (g3 : get tms 3 = B false) (g4 : get tms 4 = I s) (g5 : get tms 5 = I t) (g6 : get tms 6 = I ax) (g9 : get tms 9 = .lref 0 0 3 0) (g10 : get tms 10 = .lref 1 0 5 0) (g11 : get tms 11 = .lref 2 0 7 0) (g16 : get tms 16 = .lref 3 0 2 0) (g17 : get tms 17 = .lref 4 0 3 0) (g105 : get tms 105 = .agg [I p.sheets, .sl p.nm (p.marks.map zm) (zs p.nm 5) none, .sl p.nj (p.joins.map zj) (zs p.nj 7) none]) (g106 : get tms 106 = I s) (g107 : get tms 107 = I ax) :
    EvU cfg (lim cfg) 13 F o5c (o5c.toList.drop 3) [.code r5c] ⟨305, tms, [(0, ⟨[zh p], 3, false⟩), (1, ⟨[.agg [I m.sheet, I m.axis, I m.tru, I m.seen, I m.err]], 5, false⟩), (2, ⟨[.agg [I j.a, I j.b, I j.axis, I j.seenA, I j.errA, I j.seenB, I j.errB]], 7, false⟩), (3, ⟨[.agg [I sp.lo, I sp.hi]], 2, false⟩), (4, ⟨[.agg [B r.join, I r.at_, B r.back]], 3, false⟩)], 5, 0⟩ = some (B true) := by
  have hle : (p.marks.length + 1 ≤ p.marks.length) = False := by simp
  have hb1 : ((p.marks.length + 1) * 40 ≤ big) = True := by simp [big]; omega
  have hb2 : (p.marks.length + 1 ≤ big) = True := by simp [big]; omega
  have hsA : ∀ g n, snapAll (snap g (n + 2)) (List.map zm p.marks ++ [.agg [I m.sheet, I m.axis, I m.tru, I m.seen, I m.err]]) = some (List.map zm p.marks ++ [.agg [I m.sheet, I m.axis, I m.tru, I m.seen, I m.err]], []) := by
    intro g n
    have := zy.snapAll g n (p.marks ++ [m])
    rw [List.map_append] at this
    exact this
  have htA : List.take (p.marks.length + 1) (List.map zm p.marks ++ [.agg [I m.sheet, I m.axis, I m.tru, I m.seen, I m.err]]) = List.map zm p.marks ++ [.agg [I m.sheet, I m.axis, I m.tru, I m.seen, I m.err]] := z0 _ _
  have hok : allOk 5 (List.map zm p.marks) = true := zy.allOk _
  dsimp only [o5c, r5c, c5c, opsOf, zB, zo, Tryd.f13, List.drop]
  repeat' first | (intro hb; first | cases hb | skip) | ((first | apply z6 | apply zc); (· rfl); (· simp (disch := assumption) only [go_sem, Nat.reduceEqDiff, Nat.reduceAdd, bP, zd, Nat.reduceLeDiff, Nat.reduceLT, Nat.reduceMul, List.length_append, decide_eq_true_eq, z7, z0, Int.reduceToNat, Int.reduceLE, Int.reduceLT, Int.reduceBNe, Int.reduceBEq, g3, g4, g5, g6, g9, g10, g11, g16, g17, g105, g106, g107, zG, zz, only, keysO, zU, bI, ck58, ck59, q1, q2, h20, h30, bne_self_eq_false, beq_self_eq_true, zy.snapAll, zx.snapAll, zy.ids, zy.idsL, zx.ids, zx.idsL, List.length_map, Nat.zero_lt_succ, ite_self, hle, hb1, hb2, hsA, htA, hok, h20m, h19, h19m, h51a, h51b, h51c, d1, d2, d3, h38, h38m, h40, h40m, h60a, h60b]; rfl); (· simp only [go_sem, Nat.reduceLT, Nat.reduceEqDiff]; rfl); (· rfl); first | (apply zb; (· simp only [go_sem, Nat.reduceLT]; rfl); (· simp only [go_sem, Nat.reduceLT]; rfl)) | (apply zf; (· simp only [go_sem, Nat.reduceLT]; rfl))) | ((first | apply z9 | apply za); (· rfl); (· simp only [go_sem, Nat.reduceLT]; rfl)) | (apply z8; (· simp only [go_sem, Nat.reduceEqDiff])) | (apply z5; (· simp only [go_sem, Nat.reduceEqDiff])) | (apply ze; (· kernel_rfl); (· kernel_rfl)) | (simp only [bW, if_true, Nat.reduceEqDiff, if_false])
  all_goals refine S25 p r s ax l h hwf hk hl hh hret hnor _ _ _ (by decide) ?_ ?_ ?_ ?_ ?_ ?_ ?_ ?_ ?_ ?_ ?_ ?_
  all_goals first | rfl | exact g4 | exact g6 | exact g9 | exact g17 | exact g257 | exact g258

theorem S5jnnx {F : Exit → St → Option D} (p : Paper) (m : Mark) (j : Join) (s t ax : Int) (sp : Span) (r : Reason) (l h : Ratio) (e : Int) (hwf : p.wf) (hk : zu p ax [s] = 0) (hl : l = loF p s ax) (hh : h = hiF p s ax) (hm1 : p.marks.length ≤ 1000) (hj1 : p.joins.length ≤ 1000) (hret : ∀ st, get st.tmps 18 = B true → F .ret st = some (B true)) (hnor : ∀ st, get st.tmps 18 = B true → F .normal st = some (B true)) (h20 : (lim cfg).pure 20 [zh p, I s, I ax] = some (.tup [.agg [I l.n, I l.d], .agg [I h.n, I h.d], I 0]))
    (q1 : (lim cfg).inl 58 [.sl p.nm (p.marks.map zm) (zs p.nm 5) none] [] 7 = some (.sl true [] 0 none, [], 7)) (q2 : (lim cfg).inl 59 [.sl p.nj (p.joins.map zj) (zs p.nj 7) none] [] 7 = some (.sl true [] 0 none, [], 7)) (h30 : (lim cfg).pure 30 [.agg [I p.sheets, .sl true [] 0 none, .sl false [.agg [I j.a, I j.b, I j.axis, I j.seenA, I j.errA, I j.seenB, I j.errB]] 7 none]] = some (.tup [B false, I e])) (tms : List (Nat × D)) (g3 : get tms 3 = B true) (g4 : get tms 4 = I s) (g5 : get tms 5 = I t) (g6 : get tms 6 = I ax) (g9 : get tms 9 = .lref 0 0 3 0) (g10 : get tms 10 = .lref 1 0 5 0) (g11 : get tms 11 = .lref 2 0 7 0) (g16 : get tms 16 = .lref 3 0 2 0) (g17 : get tms 17 = .lref 4 0 3 0) (g105 : get tms 105 = .agg [I p.sheets, .sl p.nm (p.marks.map zm) (zs p.nm 5) none, .sl p.nj (p.joins.map zj) (zs p.nj 7) none]) (g106 : get tms 106 = I s) (g107 : get tms 107 = I ax) :
    EvU cfg (lim cfg) 13 F o5c (o5c.toList.drop 3) [.code r5c] ⟨305, tms, [(0, ⟨[zh p], 3, false⟩), (1, ⟨[.agg [I m.sheet, I m.axis, I m.tru, I m.seen, I m.err]], 5, false⟩), (2, ⟨[.agg [I j.a, I j.b, I j.axis, I j.seenA, I j.errA, I j.seenB, I j.errB]], 7, false⟩), (3, ⟨[.agg [I sp.lo, I sp.hi]], 2, false⟩), (4, ⟨[.agg [B r.join, I r.at_, B r.back]], 3, false⟩)], 5, 0⟩ = some (B true) := by
  dsimp only [o5c, r5c, c5c, opsOf, zB, zo, Tryd.f13, List.drop]
  repeat' first | (intro hb; first | cases hb | skip) | ((first | apply z6 | apply zc); (· rfl); (· simp (disch := assumption) only [go_sem, Nat.reduceEqDiff, Nat.reduceAdd, bP, zd, Nat.reduceLeDiff, Nat.reduceLT, Nat.reduceMul, List.length_append, decide_eq_true_eq, z7, z0, Int.reduceToNat, Int.reduceLE, Int.reduceLT, Int.reduceBNe, Int.reduceBEq, g3, g4, g5, g6, g9, g10, g11, g16, g17, g105, g106, g107, zG, zz, only, keysO, zU, bI, ck58, ck59, q1, q2, h20, h30, bne_self_eq_false, beq_self_eq_true, zy.snapAll, zx.snapAll, zy.ids, zy.idsL, zx.ids, zx.idsL, List.length_map, Nat.zero_lt_succ, ite_self]; rfl); (· simp only [go_sem, Nat.reduceLT, Nat.reduceEqDiff]; rfl); (· rfl); first | (apply zb; (· simp only [go_sem, Nat.reduceLT]; rfl); (· simp only [go_sem, Nat.reduceLT]; rfl)) | (apply zf; (· simp only [go_sem, Nat.reduceLT]; rfl))) | ((first | apply z9 | apply za); (· rfl); (· simp only [go_sem, Nat.reduceLT]; rfl)) | (apply z8; (· simp only [go_sem, Nat.reduceEqDiff])) | (apply z5; (· simp only [go_sem, Nat.reduceEqDiff])) | (apply ze; (· kernel_rfl); (· kernel_rfl)) | (simp only [bW, if_true, Nat.reduceEqDiff, if_false])
  all_goals refine S25 p r s ax l h hwf hk hl hh hret hnor _ _ _ (by decide) ?_ ?_ ?_ ?_ ?_ ?_ ?_ ?_ ?_ ?_ ?_ ?_
  all_goals first | rfl | exact g4 | exact g6 | exact g9 | exact g17 | exact g257 | exact g258

theorem S5jnny {F : Exit → St → Option D} (p : Paper) (m : Mark) (j : Join) (s t ax : Int) (sp : Span) (r : Reason) (l h : Ratio) (lm hm bt bm : Ratio) (o1 o2 o3 : Int) (x1 x2 y1 y2 : Span) (hwf : p.wf) (hk : zu p ax [s] = 0) (hl : l = loF p s ax) (hh : h = hiF p s ax) (hm1 : p.marks.length ≤ 1000) (hj1 : p.joins.length ≤ 1000) (hret : ∀ st, get st.tmps 18 = B true → F .ret st = some (B true)) (hnor : ∀ st, get st.tmps 18 = B true → F .normal st = some (B true)) (h20 : (lim cfg).pure 20 [zh p, I s, I ax] = some (.tup [.agg [I l.n, I l.d], .agg [I h.n, I h.d], I 0]))
    (q1 : (lim cfg).inl 58 [.sl p.nm (p.marks.map zm) (zs p.nm 5) none] [] 7 = some (.sl true [] 0 none, [], 7)) (q2 : (lim cfg).inl 59 [.sl p.nj (p.joins.map zj) (zs p.nj 7) none] [] 7 = some (.sl true [] 0 none, [], 7)) (h30 : (lim cfg).pure 30 [.agg [I p.sheets, .sl true [] 0 none, .sl false [.agg [I j.a, I j.b, I j.axis, I j.seenA, I j.errA, I j.seenB, I j.errB]] 7 none]] = some (.tup [B true, I 0])) (h20m : (lim cfg).pure 20 [.agg [I p.sheets, .sl true [] 0 none, .sl false [.agg [I j.a, I j.b, I j.axis, I j.seenA, I j.errA, I j.seenB, I j.errB]] 7 none], I s, I ax] = some (.tup [.agg [I lm.n, I lm.d], .agg [I hm.n, I hm.d], I 0])) (h19 : (lim cfg).pure 19 [zh p, I s, I t, I ax] = some (.tup [.agg [I bt.n, I bt.d], I 0])) (h19m : (lim cfg).pure 19 [.agg [I p.sheets, .sl true [] 0 none, .sl false [.agg [I j.a, I j.b, I j.axis, I j.seenA, I j.errA, I j.seenB, I j.errB]] 7 none], I s, I t, I ax] = some (.tup [.agg [I bm.n, I bm.d], I 0])) (h51a : (lim cfg).pure 51 [.agg [I lm.n, I lm.d], .agg [I l.n, I l.d]] = some (I o1)) (h51b : (lim cfg).pure 51 [.agg [I hm.n, I hm.d], .agg [I h.n, I h.d]] = some (I o2)) (h51c : (lim cfg).pure 51 [.agg [I bm.n, I bm.d], .agg [I bt.n, I bt.d]] = some (I o3)) (d1 : decide (o1 < 0) = false) (d2 : decide (o2 > 0) = false) (d3 : decide (o3 > 0) = false) (h38 : (lim cfg).pure 38 [zh p, I s, I ax, .agg [I sp.lo, I sp.hi]] = some (.tup [.agg [I x1.lo, I x1.hi], I 0])) (h38m : (lim cfg).pure 38 [.agg [I p.sheets, .sl true [] 0 none, .sl false [.agg [I j.a, I j.b, I j.axis, I j.seenA, I j.errA, I j.seenB, I j.errB]] 7 none], I s, I ax, .agg [I sp.lo, I sp.hi]] = some (.tup [.agg [I x2.lo, I x2.hi], I 0])) (h40 : (lim cfg).pure 40 [zh p, I s, .agg [I sp.lo, I sp.hi]] = some (.tup [.agg [I y1.lo, I y1.hi], I 0])) (h40m : (lim cfg).pure 40 [.agg [I p.sheets, .sl true [] 0 none, .sl false [.agg [I j.a, I j.b, I j.axis, I j.seenA, I j.errA, I j.seenB, I j.errB]] 7 none], I s, .agg [I sp.lo, I sp.hi]] = some (.tup [.agg [I y2.lo, I y2.hi], I 0])) (h60a : (lim cfg).pure 60 [.agg [I x2.lo, I x2.hi], .agg [I x1.lo, I x1.hi]] = some (B true)) (h60b : (lim cfg).pure 60 [.agg [I y2.lo, I y2.hi], .agg [I y1.lo, I y1.hi]] = some (B true)) (tms : List (Nat × D)) (g3 : get tms 3 = B true) (g4 : get tms 4 = I s) (g5 : get tms 5 = I t) (g6 : get tms 6 = I ax) (g9 : get tms 9 = .lref 0 0 3 0) (g10 : get tms 10 = .lref 1 0 5 0) (g11 : get tms 11 = .lref 2 0 7 0) (g16 : get tms 16 = .lref 3 0 2 0) (g17 : get tms 17 = .lref 4 0 3 0) (g105 : get tms 105 = .agg [I p.sheets, .sl p.nm (p.marks.map zm) (zs p.nm 5) none, .sl p.nj (p.joins.map zj) (zs p.nj 7) none]) (g106 : get tms 106 = I s) (g107 : get tms 107 = I ax) :
    EvU cfg (lim cfg) 13 F o5c (o5c.toList.drop 3) [.code r5c] ⟨305, tms, [(0, ⟨[zh p], 3, false⟩), (1, ⟨[.agg [I m.sheet, I m.axis, I m.tru, I m.seen, I m.err]], 5, false⟩), (2, ⟨[.agg [I j.a, I j.b, I j.axis, I j.seenA, I j.errA, I j.seenB, I j.errB]], 7, false⟩), (3, ⟨[.agg [I sp.lo, I sp.hi]], 2, false⟩), (4, ⟨[.agg [B r.join, I r.at_, B r.back]], 3, false⟩)], 5, 0⟩ = some (B true) := by
  dsimp only [o5c, r5c, c5c, opsOf, zB, zo, Tryd.f13, List.drop]
  repeat' first | (intro hb; first | cases hb | skip) | ((first | apply z6 | apply zc); (· rfl); (· simp (disch := assumption) only [go_sem, Nat.reduceEqDiff, Nat.reduceAdd, bP, zd, Nat.reduceLeDiff, Nat.reduceLT, Nat.reduceMul, List.length_append, decide_eq_true_eq, z7, z0, Int.reduceToNat, Int.reduceLE, Int.reduceLT, Int.reduceBNe, Int.reduceBEq, g3, g4, g5, g6, g9, g10, g11, g16, g17, g105, g106, g107, zG, zz, only, keysO, zU, bI, ck58, ck59, q1, q2, h20, h30, bne_self_eq_false, beq_self_eq_true, zy.snapAll, zx.snapAll, zy.ids, zy.idsL, zx.ids, zx.idsL, List.length_map, Nat.zero_lt_succ, ite_self, h20m, h19, h19m, h51a, h51b, h51c, d1, d2, d3, h38, h38m, h40, h40m, h60a, h60b]; rfl); (· simp only [go_sem, Nat.reduceLT, Nat.reduceEqDiff]; rfl); (· rfl); first | (apply zb; (· simp only [go_sem, Nat.reduceLT]; rfl); (· simp only [go_sem, Nat.reduceLT]; rfl)) | (apply zf; (· simp only [go_sem, Nat.reduceLT]; rfl))) | ((first | apply z9 | apply za); (· rfl); (· simp only [go_sem, Nat.reduceLT]; rfl)) | (apply z8; (· simp only [go_sem, Nat.reduceEqDiff])) | (apply z5; (· simp only [go_sem, Nat.reduceEqDiff])) | (apply ze; (· kernel_rfl); (· kernel_rfl)) | (simp only [bW, if_true, Nat.reduceEqDiff, if_false])
  all_goals refine S25 p r s ax l h hwf hk hl hh hret hnor _ _ _ (by decide) ?_ ?_ ?_ ?_ ?_ ?_ ?_ ?_ ?_ ?_ ?_ ?_
  all_goals first | rfl | exact g4 | exact g6 | exact g9 | exact g17 | exact g257 | exact g258

theorem S5jnex {F : Exit → St → Option D} (p : Paper) (m : Mark) (j : Join) (s t ax : Int) (sp : Span) (r : Reason) (l h : Ratio) (e : Int) (hwf : p.wf) (hk : zu p ax [s] = 0) (hl : l = loF p s ax) (hh : h = hiF p s ax) (hm1 : p.marks.length ≤ 1000) (hj1 : p.joins.length ≤ 1000) (hret : ∀ st, get st.tmps 18 = B true → F .ret st = some (B true)) (hnor : ∀ st, get st.tmps 18 = B true → F .normal st = some (B true)) (h20 : (lim cfg).pure 20 [zh p, I s, I ax] = some (.tup [.agg [I l.n, I l.d], .agg [I h.n, I h.d], I 0]))
    (q1 : (lim cfg).inl 58 [.sl p.nm (p.marks.map zm) (zs p.nm 5) none] [] 7 = some (.sl true [] 0 none, [], 7)) (q2 : (lim cfg).inl 59 [.sl p.nj (p.joins.map zj) (zs p.nj 7) none] [] 7 = some (.lsl 7 0 0 7 (some 0), [(7, ⟨[], 7, false⟩)], 8)) (h30 : (lim cfg).pure 30 [.agg [I p.sheets, .sl true [] 0 none, .sl false [.agg [I j.a, I j.b, I j.axis, I j.seenA, I j.errA, I j.seenB, I j.errB]] 7 none]] = some (.tup [B false, I e])) (tms : List (Nat × D)) (g3 : get tms 3 = B true) (g4 : get tms 4 = I s) (g5 : get tms 5 = I t) (g6 : get tms 6 = I ax) (g9 : get tms 9 = .lref 0 0 3 0) (g10 : get tms 10 = .lref 1 0 5 0) (g11 : get tms 11 = .lref 2 0 7 0) (g16 : get tms 16 = .lref 3 0 2 0) (g17 : get tms 17 = .lref 4 0 3 0) (g105 : get tms 105 = .agg [I p.sheets, .sl p.nm (p.marks.map zm) (zs p.nm 5) none, .sl p.nj (p.joins.map zj) (zs p.nj 7) none]) (g106 : get tms 106 = I s) (g107 : get tms 107 = I ax) :
    EvU cfg (lim cfg) 13 F o5c (o5c.toList.drop 3) [.code r5c] ⟨305, tms, [(0, ⟨[zh p], 3, false⟩), (1, ⟨[.agg [I m.sheet, I m.axis, I m.tru, I m.seen, I m.err]], 5, false⟩), (2, ⟨[.agg [I j.a, I j.b, I j.axis, I j.seenA, I j.errA, I j.seenB, I j.errB]], 7, false⟩), (3, ⟨[.agg [I sp.lo, I sp.hi]], 2, false⟩), (4, ⟨[.agg [B r.join, I r.at_, B r.back]], 3, false⟩)], 5, 0⟩ = some (B true) := by
  dsimp only [o5c, r5c, c5c, opsOf, zB, zo, Tryd.f13, List.drop]
  repeat' first | (intro hb; first | cases hb | skip) | ((first | apply z6 | apply zc); (· rfl); (· simp (disch := assumption) only [go_sem, Nat.reduceEqDiff, Nat.reduceAdd, bP, zd, Nat.reduceLeDiff, Nat.reduceLT, Nat.reduceMul, List.length_append, decide_eq_true_eq, z7, z0, Int.reduceToNat, Int.reduceLE, Int.reduceLT, Int.reduceBNe, Int.reduceBEq, g3, g4, g5, g6, g9, g10, g11, g16, g17, g105, g106, g107, zG, zz, only, keysO, zU, bI, ck58, ck59, q1, q2, h20, h30, bne_self_eq_false, beq_self_eq_true, zy.snapAll, zx.snapAll, zy.ids, zy.idsL, zx.ids, zx.idsL, List.length_map, Nat.zero_lt_succ, ite_self]; rfl); (· simp only [go_sem, Nat.reduceLT, Nat.reduceEqDiff]; rfl); (· rfl); first | (apply zb; (· simp only [go_sem, Nat.reduceLT]; rfl); (· simp only [go_sem, Nat.reduceLT]; rfl)) | (apply zf; (· simp only [go_sem, Nat.reduceLT]; rfl))) | ((first | apply z9 | apply za); (· rfl); (· simp only [go_sem, Nat.reduceLT]; rfl)) | (apply z8; (· simp only [go_sem, Nat.reduceEqDiff])) | (apply z5; (· simp only [go_sem, Nat.reduceEqDiff])) | (apply ze; (· kernel_rfl); (· kernel_rfl)) | (simp only [bW, if_true, Nat.reduceEqDiff, if_false])
  all_goals refine S25 p r s ax l h hwf hk hl hh hret hnor _ _ _ (by decide) ?_ ?_ ?_ ?_ ?_ ?_ ?_ ?_ ?_ ?_ ?_ ?_
  all_goals first | rfl | exact g4 | exact g6 | exact g9 | exact g17 | exact g257 | exact g258

theorem S5jney {F : Exit → St → Option D} (p : Paper) (m : Mark) (j : Join) (s t ax : Int) (sp : Span) (r : Reason) (l h : Ratio) (lm hm bt bm : Ratio) (o1 o2 o3 : Int) (x1 x2 y1 y2 : Span) (hwf : p.wf) (hk : zu p ax [s] = 0) (hl : l = loF p s ax) (hh : h = hiF p s ax) (hm1 : p.marks.length ≤ 1000) (hj1 : p.joins.length ≤ 1000) (hret : ∀ st, get st.tmps 18 = B true → F .ret st = some (B true)) (hnor : ∀ st, get st.tmps 18 = B true → F .normal st = some (B true)) (h20 : (lim cfg).pure 20 [zh p, I s, I ax] = some (.tup [.agg [I l.n, I l.d], .agg [I h.n, I h.d], I 0]))
    (q1 : (lim cfg).inl 58 [.sl p.nm (p.marks.map zm) (zs p.nm 5) none] [] 7 = some (.sl true [] 0 none, [], 7)) (q2 : (lim cfg).inl 59 [.sl p.nj (p.joins.map zj) (zs p.nj 7) none] [] 7 = some (.lsl 7 0 0 7 (some 0), [(7, ⟨[], 7, false⟩)], 8)) (h30 : (lim cfg).pure 30 [.agg [I p.sheets, .sl true [] 0 none, .sl false [.agg [I j.a, I j.b, I j.axis, I j.seenA, I j.errA, I j.seenB, I j.errB]] 7 none]] = some (.tup [B true, I 0])) (h20m : (lim cfg).pure 20 [.agg [I p.sheets, .sl true [] 0 none, .sl false [.agg [I j.a, I j.b, I j.axis, I j.seenA, I j.errA, I j.seenB, I j.errB]] 7 none], I s, I ax] = some (.tup [.agg [I lm.n, I lm.d], .agg [I hm.n, I hm.d], I 0])) (h19 : (lim cfg).pure 19 [zh p, I s, I t, I ax] = some (.tup [.agg [I bt.n, I bt.d], I 0])) (h19m : (lim cfg).pure 19 [.agg [I p.sheets, .sl true [] 0 none, .sl false [.agg [I j.a, I j.b, I j.axis, I j.seenA, I j.errA, I j.seenB, I j.errB]] 7 none], I s, I t, I ax] = some (.tup [.agg [I bm.n, I bm.d], I 0])) (h51a : (lim cfg).pure 51 [.agg [I lm.n, I lm.d], .agg [I l.n, I l.d]] = some (I o1)) (h51b : (lim cfg).pure 51 [.agg [I hm.n, I hm.d], .agg [I h.n, I h.d]] = some (I o2)) (h51c : (lim cfg).pure 51 [.agg [I bm.n, I bm.d], .agg [I bt.n, I bt.d]] = some (I o3)) (d1 : decide (o1 < 0) = false) (d2 : decide (o2 > 0) = false) (d3 : decide (o3 > 0) = false) (h38 : (lim cfg).pure 38 [zh p, I s, I ax, .agg [I sp.lo, I sp.hi]] = some (.tup [.agg [I x1.lo, I x1.hi], I 0])) (h38m : (lim cfg).pure 38 [.agg [I p.sheets, .sl true [] 0 none, .sl false [.agg [I j.a, I j.b, I j.axis, I j.seenA, I j.errA, I j.seenB, I j.errB]] 7 none], I s, I ax, .agg [I sp.lo, I sp.hi]] = some (.tup [.agg [I x2.lo, I x2.hi], I 0])) (h40 : (lim cfg).pure 40 [zh p, I s, .agg [I sp.lo, I sp.hi]] = some (.tup [.agg [I y1.lo, I y1.hi], I 0])) (h40m : (lim cfg).pure 40 [.agg [I p.sheets, .sl true [] 0 none, .sl false [.agg [I j.a, I j.b, I j.axis, I j.seenA, I j.errA, I j.seenB, I j.errB]] 7 none], I s, .agg [I sp.lo, I sp.hi]] = some (.tup [.agg [I y2.lo, I y2.hi], I 0])) (h60a : (lim cfg).pure 60 [.agg [I x2.lo, I x2.hi], .agg [I x1.lo, I x1.hi]] = some (B true)) (h60b : (lim cfg).pure 60 [.agg [I y2.lo, I y2.hi], .agg [I y1.lo, I y1.hi]] = some (B true)) (tms : List (Nat × D)) (g3 : get tms 3 = B true) (g4 : get tms 4 = I s) (g5 : get tms 5 = I t) (g6 : get tms 6 = I ax) (g9 : get tms 9 = .lref 0 0 3 0) (g10 : get tms 10 = .lref 1 0 5 0) (g11 : get tms 11 = .lref 2 0 7 0) (g16 : get tms 16 = .lref 3 0 2 0) (g17 : get tms 17 = .lref 4 0 3 0) (g105 : get tms 105 = .agg [I p.sheets, .sl p.nm (p.marks.map zm) (zs p.nm 5) none, .sl p.nj (p.joins.map zj) (zs p.nj 7) none]) (g106 : get tms 106 = I s) (g107 : get tms 107 = I ax) :
    EvU cfg (lim cfg) 13 F o5c (o5c.toList.drop 3) [.code r5c] ⟨305, tms, [(0, ⟨[zh p], 3, false⟩), (1, ⟨[.agg [I m.sheet, I m.axis, I m.tru, I m.seen, I m.err]], 5, false⟩), (2, ⟨[.agg [I j.a, I j.b, I j.axis, I j.seenA, I j.errA, I j.seenB, I j.errB]], 7, false⟩), (3, ⟨[.agg [I sp.lo, I sp.hi]], 2, false⟩), (4, ⟨[.agg [B r.join, I r.at_, B r.back]], 3, false⟩)], 5, 0⟩ = some (B true) := by
  dsimp only [o5c, r5c, c5c, opsOf, zB, zo, Tryd.f13, List.drop]
  repeat' first | (intro hb; first | cases hb | skip) | ((first | apply z6 | apply zc); (· rfl); (· simp (disch := assumption) only [go_sem, Nat.reduceEqDiff, Nat.reduceAdd, bP, zd, Nat.reduceLeDiff, Nat.reduceLT, Nat.reduceMul, List.length_append, decide_eq_true_eq, z7, z0, Int.reduceToNat, Int.reduceLE, Int.reduceLT, Int.reduceBNe, Int.reduceBEq, g3, g4, g5, g6, g9, g10, g11, g16, g17, g105, g106, g107, zG, zz, only, keysO, zU, bI, ck58, ck59, q1, q2, h20, h30, bne_self_eq_false, beq_self_eq_true, zy.snapAll, zx.snapAll, zy.ids, zy.idsL, zx.ids, zx.idsL, List.length_map, Nat.zero_lt_succ, ite_self, h20m, h19, h19m, h51a, h51b, h51c, d1, d2, d3, h38, h38m, h40, h40m, h60a, h60b]; rfl); (· simp only [go_sem, Nat.reduceLT, Nat.reduceEqDiff]; rfl); (· rfl); first | (apply zb; (· simp only [go_sem, Nat.reduceLT]; rfl); (· simp only [go_sem, Nat.reduceLT]; rfl)) | (apply zf; (· simp only [go_sem, Nat.reduceLT]; rfl))) | ((first | apply z9 | apply za); (· rfl); (· simp only [go_sem, Nat.reduceLT]; rfl)) | (apply z8; (· simp only [go_sem, Nat.reduceEqDiff])) | (apply z5; (· simp only [go_sem, Nat.reduceEqDiff])) | (apply ze; (· kernel_rfl); (· kernel_rfl)) | (simp only [bW, if_true, Nat.reduceEqDiff, if_false])
  all_goals refine S25 p r s ax l h hwf hk hl hh hret hnor _ _ _ (by decide) ?_ ?_ ?_ ?_ ?_ ?_ ?_ ?_ ?_ ?_ ?_ ?_
  all_goals first | rfl | exact g4 | exact g6 | exact g9 | exact g17 | exact g257 | exact g258

theorem S5jncx {F : Exit → St → Option D} (p : Paper) (m : Mark) (j : Join) (s t ax : Int) (sp : Span) (r : Reason) (l h : Ratio) (e : Int) (hwf : p.wf) (hk : zu p ax [s] = 0) (hl : l = loF p s ax) (hh : h = hiF p s ax) (hm1 : p.marks.length ≤ 1000) (hj1 : p.joins.length ≤ 1000) (hret : ∀ st, get st.tmps 18 = B true → F .ret st = some (B true)) (hnor : ∀ st, get st.tmps 18 = B true → F .normal st = some (B true)) (h20 : (lim cfg).pure 20 [zh p, I s, I ax] = some (.tup [.agg [I l.n, I l.d], .agg [I h.n, I h.d], I 0]))
    (q1 : (lim cfg).inl 58 [.sl p.nm (p.marks.map zm) (zs p.nm 5) none] [] 7 = some (.sl true [] 0 none, [], 7)) (q2 : (lim cfg).inl 59 [.sl p.nj (p.joins.map zj) (zs p.nj 7) none] [] 7 = some (.lsl 8 0 p.joins.length 7 none, [(7, ⟨[], 7, false⟩), (8, ⟨p.joins.map zj, 7, false⟩)], 9)) (h30 : (lim cfg).pure 30 [.agg [I p.sheets, .sl true [] 0 none, .sl false (List.map zj p.joins ++ [.agg [I j.a, I j.b, I j.axis, I j.seenA, I j.errA, I j.seenB, I j.errB]]) 7 none]] = some (.tup [B false, I e])) (tms : List (Nat × D)) (g3 : get tms 3 = B true) (g4 : get tms 4 = I s) (g5 : get tms 5 = I t) (g6 : get tms 6 = I ax) (g9 : get tms 9 = .lref 0 0 3 0) (g10 : get tms 10 = .lref 1 0 5 0) (g11 : get tms 11 = .lref 2 0 7 0) (g16 : get tms 16 = .lref 3 0 2 0) (g17 : get tms 17 = .lref 4 0 3 0) (g105 : get tms 105 = .agg [I p.sheets, .sl p.nm (p.marks.map zm) (zs p.nm 5) none, .sl p.nj (p.joins.map zj) (zs p.nj 7) none]) (g106 : get tms 106 = I s) (g107 : get tms 107 = I ax) :
    EvU cfg (lim cfg) 13 F o5c (o5c.toList.drop 3) [.code r5c] ⟨305, tms, [(0, ⟨[zh p], 3, false⟩), (1, ⟨[.agg [I m.sheet, I m.axis, I m.tru, I m.seen, I m.err]], 5, false⟩), (2, ⟨[.agg [I j.a, I j.b, I j.axis, I j.seenA, I j.errA, I j.seenB, I j.errB]], 7, false⟩), (3, ⟨[.agg [I sp.lo, I sp.hi]], 2, false⟩), (4, ⟨[.agg [B r.join, I r.at_, B r.back]], 3, false⟩)], 5, 0⟩ = some (B true) := by
  have hle : (p.joins.length + 1 ≤ p.joins.length) = False := by simp
  have hb1 : ((p.joins.length + 1) * 56 ≤ big) = True := by simp [big]; omega
  have hb2 : (p.joins.length + 1 ≤ big) = True := by simp [big]; omega
  have hsA : ∀ g n, snapAll (snap g (n + 2)) (List.map zj p.joins ++ [.agg [I j.a, I j.b, I j.axis, I j.seenA, I j.errA, I j.seenB, I j.errB]]) = some (List.map zj p.joins ++ [.agg [I j.a, I j.b, I j.axis, I j.seenA, I j.errA, I j.seenB, I j.errB]], []) := by
    intro g n
    have := zx.snapAll g n (p.joins ++ [j])
    rw [List.map_append] at this
    exact this
  have htA : List.take (p.joins.length + 1) (List.map zj p.joins ++ [.agg [I j.a, I j.b, I j.axis, I j.seenA, I j.errA, I j.seenB, I j.errB]]) = List.map zj p.joins ++ [.agg [I j.a, I j.b, I j.axis, I j.seenA, I j.errA, I j.seenB, I j.errB]] := z0 _ _
  have hok : allOk 7 (List.map zj p.joins) = true := zx.allOk _
  dsimp only [o5c, r5c, c5c, opsOf, zB, zo, Tryd.f13, List.drop]
  repeat' first | (intro hb; first | cases hb | skip) | ((first | apply z6 | apply zc); (· rfl); (· simp (disch := assumption) only [go_sem, Nat.reduceEqDiff, Nat.reduceAdd, bP, zd, Nat.reduceLeDiff, Nat.reduceLT, Nat.reduceMul, List.length_append, decide_eq_true_eq, z7, z0, Int.reduceToNat, Int.reduceLE, Int.reduceLT, Int.reduceBNe, Int.reduceBEq, g3, g4, g5, g6, g9, g10, g11, g16, g17, g105, g106, g107, zG, zz, only, keysO, zU, bI, ck58, ck59, q1, q2, h20, h30, bne_self_eq_false, beq_self_eq_true, zy.snapAll, zx.snapAll, zy.ids, zy.idsL, zx.ids, zx.idsL, List.length_map, Nat.zero_lt_succ, ite_self, hle, hb1, hb2, hsA, htA, hok]; rfl); (· simp only [go_sem, Nat.reduceLT, Nat.reduceEqDiff]; rfl); (· rfl); first | (apply zb; (· simp only [go_sem, Nat.reduceLT]; rfl); (· simp only [go_sem, Nat.reduceLT]; rfl)) | (apply zf; (· simp only [go_sem, Nat.reduceLT]; rfl))) | ((first | apply z9 | apply za); (· rfl); (· simp only [go_sem, Nat.reduceLT]; rfl)) | (apply z8; (· simp only [go_sem, Nat.reduceEqDiff])) | (apply z5; (· simp only [go_sem, Nat.reduceEqDiff])) | (apply ze; (· kernel_rfl); (· kernel_rfl)) | (simp only [bW, if_true, Nat.reduceEqDiff, if_false])
  all_goals refine S25 p r s ax l h hwf hk hl hh hret hnor _ _ _ (by decide) ?_ ?_ ?_ ?_ ?_ ?_ ?_ ?_ ?_ ?_ ?_ ?_
  all_goals first | rfl | exact g4 | exact g6 | exact g9 | exact g17 | exact g257 | exact g258

theorem S5jncy {F : Exit → St → Option D} (p : Paper) (m : Mark) (j : Join) (s t ax : Int) (sp : Span) (r : Reason) (l h : Ratio) (lm hm bt bm : Ratio) (o1 o2 o3 : Int) (x1 x2 y1 y2 : Span) (hwf : p.wf) (hk : zu p ax [s] = 0) (hl : l = loF p s ax) (hh : h = hiF p s ax) (hm1 : p.marks.length ≤ 1000) (hj1 : p.joins.length ≤ 1000) (hret : ∀ st, get st.tmps 18 = B true → F .ret st = some (B true)) (hnor : ∀ st, get st.tmps 18 = B true → F .normal st = some (B true)) (h20 : (lim cfg).pure 20 [zh p, I s, I ax] = some (.tup [.agg [I l.n, I l.d], .agg [I h.n, I h.d], I 0]))
    (q1 : (lim cfg).inl 58 [.sl p.nm (p.marks.map zm) (zs p.nm 5) none] [] 7 = some (.sl true [] 0 none, [], 7)) (q2 : (lim cfg).inl 59 [.sl p.nj (p.joins.map zj) (zs p.nj 7) none] [] 7 = some (.lsl 8 0 p.joins.length 7 none, [(7, ⟨[], 7, false⟩), (8, ⟨p.joins.map zj, 7, false⟩)], 9)) (h30 : (lim cfg).pure 30 [.agg [I p.sheets, .sl true [] 0 none, .sl false (List.map zj p.joins ++ [.agg [I j.a, I j.b, I j.axis, I j.seenA, I j.errA, I j.seenB, I j.errB]]) 7 none]] = some (.tup [B true, I 0])) (h20m : (lim cfg).pure 20 [.agg [I p.sheets, .sl true [] 0 none, .sl false (List.map zj p.joins ++ [.agg [I j.a, I j.b, I j.axis, I j.seenA, I j.errA, I j.seenB, I j.errB]]) 7 none], I s, I ax] = some (.tup [.agg [I lm.n, I lm.d], .agg [I hm.n, I hm.d], I 0])) (h19 : (lim cfg).pure 19 [zh p, I s, I t, I ax] = some (.tup [.agg [I bt.n, I bt.d], I 0])) (h19m : (lim cfg).pure 19 [.agg [I p.sheets, .sl true [] 0 none, .sl false (List.map zj p.joins ++ [.agg [I j.a, I j.b, I j.axis, I j.seenA, I j.errA, I j.seenB, I j.errB]]) 7 none], I s, I t, I ax] = some (.tup [.agg [I bm.n, I bm.d], I 0])) (h51a : (lim cfg).pure 51 [.agg [I lm.n, I lm.d], .agg [I l.n, I l.d]] = some (I o1)) (h51b : (lim cfg).pure 51 [.agg [I hm.n, I hm.d], .agg [I h.n, I h.d]] = some (I o2)) (h51c : (lim cfg).pure 51 [.agg [I bm.n, I bm.d], .agg [I bt.n, I bt.d]] = some (I o3)) (d1 : decide (o1 < 0) = false) (d2 : decide (o2 > 0) = false) (d3 : decide (o3 > 0) = false) (h38 : (lim cfg).pure 38 [zh p, I s, I ax, .agg [I sp.lo, I sp.hi]] = some (.tup [.agg [I x1.lo, I x1.hi], I 0])) (h38m : (lim cfg).pure 38 [.agg [I p.sheets, .sl true [] 0 none, .sl false (List.map zj p.joins ++ [.agg [I j.a, I j.b, I j.axis, I j.seenA, I j.errA, I j.seenB, I j.errB]]) 7 none], I s, I ax, .agg [I sp.lo, I sp.hi]] = some (.tup [.agg [I x2.lo, I x2.hi], I 0])) (h40 : (lim cfg).pure 40 [zh p, I s, .agg [I sp.lo, I sp.hi]] = some (.tup [.agg [I y1.lo, I y1.hi], I 0])) (h40m : (lim cfg).pure 40 [.agg [I p.sheets, .sl true [] 0 none, .sl false (List.map zj p.joins ++ [.agg [I j.a, I j.b, I j.axis, I j.seenA, I j.errA, I j.seenB, I j.errB]]) 7 none], I s, .agg [I sp.lo, I sp.hi]] = some (.tup [.agg [I y2.lo, I y2.hi], I 0])) (h60a : (lim cfg).pure 60 [.agg [I x2.lo, I x2.hi], .agg [I x1.lo, I x1.hi]] = some (B true)) (h60b : (lim cfg).pure 60 [.agg [I y2.lo, I y2.hi], .agg [I y1.lo, I y1.hi]] = some (B true)) (tms : List (Nat × D)) (g3 : get tms 3 = B true) (g4 : get tms 4 = I s) (g5 : get tms 5 = I t) (g6 : get tms 6 = I ax) (g9 : get tms 9 = .lref 0 0 3 0) (g10 : get tms 10 = .lref 1 0 5 0) (g11 : get tms 11 = .lref 2 0 7 0) (g16 : get tms 16 = .lref 3 0 2 0) (g17 : get tms 17 = .lref 4 0 3 0) (g105 : get tms 105 = .agg [I p.sheets, .sl p.nm (p.marks.map zm) (zs p.nm 5) none, .sl p.nj (p.joins.map zj) (zs p.nj 7) none]) (g106 : get tms 106 = I s) (g107 : get tms 107 = I ax) :
    EvU cfg (lim cfg) 13 F o5c (o5c.toList.drop 3) [.code r5c] ⟨305, tms, [(0, ⟨[zh p], 3, false⟩), (1, ⟨[.agg [I m.sheet, I m.axis, I m.tru, I m.seen, I m.err]], 5, false⟩), (2, ⟨[.agg [I j.a, I j.b, I j.axis, I j.seenA, I j.errA, I j.seenB, I j.errB]], 7, false⟩), (3, ⟨[.agg [I sp.lo, I sp.hi]], 2, false⟩), (4, ⟨[.agg [B r.join, I r.at_, B r.back]], 3, false⟩)], 5, 0⟩ = some (B true) := by
  have hle : (p.joins.length + 1 ≤ p.joins.length) = False := by simp
  have hb1 : ((p.joins.length + 1) * 56 ≤ big) = True := by simp [big]; omega
  have hb2 : (p.joins.length + 1 ≤ big) = True := by simp [big]; omega
  have hsA : ∀ g n, snapAll (snap g (n + 2)) (List.map zj p.joins ++ [.agg [I j.a, I j.b, I j.axis, I j.seenA, I j.errA, I j.seenB, I j.errB]]) = some (List.map zj p.joins ++ [.agg [I j.a, I j.b, I j.axis, I j.seenA, I j.errA, I j.seenB, I j.errB]], []) := by
    intro g n
    have := zx.snapAll g n (p.joins ++ [j])
    rw [List.map_append] at this
    exact this
  have htA : List.take (p.joins.length + 1) (List.map zj p.joins ++ [.agg [I j.a, I j.b, I j.axis, I j.seenA, I j.errA, I j.seenB, I j.errB]]) = List.map zj p.joins ++ [.agg [I j.a, I j.b, I j.axis, I j.seenA, I j.errA, I j.seenB, I j.errB]] := z0 _ _
  have hok : allOk 7 (List.map zj p.joins) = true := zx.allOk _
  dsimp only [o5c, r5c, c5c, opsOf, zB, zo, Tryd.f13, List.drop]
  repeat' first | (intro hb; first | cases hb | skip) | ((first | apply z6 | apply zc); (· rfl); (· simp (disch := assumption) only [go_sem, Nat.reduceEqDiff, Nat.reduceAdd, bP, zd, Nat.reduceLeDiff, Nat.reduceLT, Nat.reduceMul, List.length_append, decide_eq_true_eq, z7, z0, Int.reduceToNat, Int.reduceLE, Int.reduceLT, Int.reduceBNe, Int.reduceBEq, g3, g4, g5, g6, g9, g10, g11, g16, g17, g105, g106, g107, zG, zz, only, keysO, zU, bI, ck58, ck59, q1, q2, h20, h30, bne_self_eq_false, beq_self_eq_true, zy.snapAll, zx.snapAll, zy.ids, zy.idsL, zx.ids, zx.idsL, List.length_map, Nat.zero_lt_succ, ite_self, hle, hb1, hb2, hsA, htA, hok, h20m, h19, h19m, h51a, h51b, h51c, d1, d2, d3, h38, h38m, h40, h40m, h60a, h60b]; rfl); (· simp only [go_sem, Nat.reduceLT, Nat.reduceEqDiff]; rfl); (· rfl); first | (apply zb; (· simp only [go_sem, Nat.reduceLT]; rfl); (· simp only [go_sem, Nat.reduceLT]; rfl)) | (apply zf; (· simp only [go_sem, Nat.reduceLT]; rfl))) | ((first | apply z9 | apply za); (· rfl); (· simp only [go_sem, Nat.reduceLT]; rfl)) | (apply z8; (· simp only [go_sem, Nat.reduceEqDiff])) | (apply z5; (· simp only [go_sem, Nat.reduceEqDiff])) | (apply ze; (· kernel_rfl); (· kernel_rfl)) | (simp only [bW, if_true, Nat.reduceEqDiff, if_false])
  all_goals refine S25 p r s ax l h hwf hk hl hh hret hnor _ _ _ (by decide) ?_ ?_ ?_ ?_ ?_ ?_ ?_ ?_ ?_ ?_ ?_ ?_
  all_goals first | rfl | exact g4 | exact g6 | exact g9 | exact g17 | exact g257 | exact g258

end Go.VS
namespace Go.VS
open Go Go.Proofs
set_option maxHeartbeats 0
set_option linter.unusedSimpArgs false

set_option maxRecDepth 10000
theorem S5jenx {F : Exit → St → Option D} (p : Paper) (m : Mark) (j : Join) (s t ax : Int) (sp : Span) (r : Reason) (l h : Ratio) (e : Int) (hwf : p.wf) (hk : zu p ax [s] = 0) (hl : l = loF p s ax) (hh : h = hiF p s ax) (hm1 : p.marks.length ≤ 1000) (hj1 : p.joins.length ≤ 1000) (hret : ∀ st, get st.tmps 18 = B true → F .ret st = some (B true)) (hnor : ∀ st, get st.tmps 18 = B true → F .normal st = some (B true)) (h20 : (lim cfg).pure 20 [zh p, I s, I ax] = some (.tup [.agg [I l.n, I l.d], .agg [I h.n, I h.d], I 0]))
    (q1 : (lim cfg).inl 58 [.sl p.nm (p.marks.map zm) (zs p.nm 5) none] [] 7 = some (.lsl 7 0 0 5 (some 0), [(7, ⟨[], 5, false⟩)], 8)) (q2 : (lim cfg).inl 59 [.sl p.nj (p.joins.map zj) (zs p.nj 7) none] [] 8 = some (.sl true [] 0 none, [], 8)) (h30 : (lim cfg).pure 30 [.agg [I p.sheets, .sl false [] 5 none, .sl false [.agg [I j.a, I j.b, I j.axis, I j.seenA, I j.errA, I j.seenB, I j.errB]] 7 none]] = some (.tup [B false, I e])) (tms : List (Nat × D)) (g3 : get tms 3 = B true) (g4 : get tms 4 = I s) (g5 : get tms 5 = I t) (g6 : get tms 6 = I ax) (g9 : get tms 9 = .lref 0 0 3 0) (g10 : get tms 10 = .lref 1 0 5 0) (g11 : get tms 11 = .lref 2 0 7 0) (g16 : get tms 16 = .lref 3 0 2 0) (g17 : get tms 17 = .lref 4 0 3 0) (g105 : get tms 105 = .agg [I p.sheets, .sl p.nm (p.marks.map zm) (zs p.nm 5) none, .sl p.nj (p.joins.map zj) (zs p.nj 7) none]) (g106 : get tms 106 = I s) (g107 : get tms 107 = I ax) :
    EvU cfg (lim cfg) 13 F o5c (o5c.toList.drop 3) [.code r5c] ⟨305, tms, [(0, ⟨[zh p], 3, false⟩), (1, ⟨[.agg [I m.sheet, I m.axis, I m.tru, I m.seen, I m.err]], 5, false⟩), (2, ⟨[.agg [I j.a, I j.b, I j.axis, I j.seenA, I j.errA, I j.seenB, I j.errB]], 7, false⟩), (3, ⟨[.agg [I sp.lo, I sp.hi]], 2, false⟩), (4, ⟨[.agg [B r.join, I r.at_, B r.back]], 3, false⟩)], 5, 0⟩ = some (B true) := by
  dsimp only [o5c, r5c, c5c, opsOf, zB, zo, Tryd.f13, List.drop]
  repeat' first | (intro hb; first | cases hb | skip) | ((first | apply z6 | apply zc); (· rfl); (· simp (disch := assumption) only [go_sem, Nat.reduceEqDiff, Nat.reduceAdd, bP, zd, Nat.reduceLeDiff, Nat.reduceLT, Nat.reduceMul, List.length_append, decide_eq_true_eq, z7, z0, Int.reduceToNat, Int.reduceLE, Int.reduceLT, Int.reduceBNe, Int.reduceBEq, g3, g4, g5, g6, g9, g10, g11, g16, g17, g105, g106, g107, zG, zz, only, keysO, zU, bI, ck58, ck59, q1, q2, h20, h30, bne_self_eq_false, beq_self_eq_true, zy.snapAll, zx.snapAll, zy.ids, zy.idsL, zx.ids, zx.idsL, List.length_map, Nat.zero_lt_succ, ite_self]; rfl); (· simp only [go_sem, Nat.reduceLT, Nat.reduceEqDiff]; rfl); (· rfl); first | (apply zb; (· simp only [go_sem, Nat.reduceLT]; rfl); (· simp only [go_sem, Nat.reduceLT]; rfl)) | (apply zf; (· simp only [go_sem, Nat.reduceLT]; rfl))) | ((first | apply z9 | apply za); (· rfl); (· simp only [go_sem, Nat.reduceLT]; rfl)) | (apply z8; (· simp only [go_sem, Nat.reduceEqDiff])) | (apply z5; (· simp only [go_sem, Nat.reduceEqDiff])) | (apply ze; (· kernel_rfl); (· kernel_rfl)) | (simp only [bW, if_true, Nat.reduceEqDiff, if_false])
  all_goals refine S25 p r s ax l h hwf hk hl hh hret hnor _ _ _ (by decide) ?_ ?_ ?_ ?_ ?_ ?_ ?_ ?_ ?_ ?_ ?_ ?_
  all_goals first | rfl | exact g4 | exact g6 | exact g9 | exact g17 | exact g257 | exact g258

theorem S5jeny {F : Exit → St → Option D} (p : Paper) (m : Mark) (j : Join) (s t ax : Int) (sp : Span) (r : Reason) (l h : Ratio) (lm hm bt bm : Ratio) (o1 o2 o3 : Int) (x1 x2 y1 y2 : Span) (hwf : p.wf) (hk : zu p ax [s] = 0) (hl : l = loF p s ax) (hh : h = hiF p s ax) (hm1 : p.marks.length ≤ 1000) (hj1 : p.joins.length ≤ 1000) (hret : ∀ st, get st.tmps 18 = B true → F .ret st = some (B true)) (hnor : ∀ st, get st.tmps 18 = B true → F .normal st = some (B true)) (h20 : (lim cfg).pure 20 [zh p, I s, I ax] = some (.tup [.agg [I l.n, I l.d], .agg [I h.n, I h.d], I 0]))
    (q1 : (lim cfg).inl 58 [.sl p.nm (p.marks.map zm) (zs p.nm 5) none] [] 7 = some (.lsl 7 0 0 5 (some 0), [(7, ⟨[], 5, false⟩)], 8)) (q2 : (lim cfg).inl 59 [.sl p.nj (p.joins.map zj) (zs p.nj 7) none] [] 8 = some (.sl true [] 0 none, [], 8)) (h30 : (lim cfg).pure 30 [.agg [I p.sheets, .sl false [] 5 none, .sl false [.agg [I j.a, I j.b, I j.axis, I j.seenA, I j.errA, I j.seenB, I j.errB]] 7 none]] = some (.tup [B true, I 0])) (h20m : (lim cfg).pure 20 [.agg [I p.sheets, .sl false [] 5 none, .sl false [.agg [I j.a, I j.b, I j.axis, I j.seenA, I j.errA, I j.seenB, I j.errB]] 7 none], I s, I ax] = some (.tup [.agg [I lm.n, I lm.d], .agg [I hm.n, I hm.d], I 0])) (h19 : (lim cfg).pure 19 [zh p, I s, I t, I ax] = some (.tup [.agg [I bt.n, I bt.d], I 0])) (h19m : (lim cfg).pure 19 [.agg [I p.sheets, .sl false [] 5 none, .sl false [.agg [I j.a, I j.b, I j.axis, I j.seenA, I j.errA, I j.seenB, I j.errB]] 7 none], I s, I t, I ax] = some (.tup [.agg [I bm.n, I bm.d], I 0])) (h51a : (lim cfg).pure 51 [.agg [I lm.n, I lm.d], .agg [I l.n, I l.d]] = some (I o1)) (h51b : (lim cfg).pure 51 [.agg [I hm.n, I hm.d], .agg [I h.n, I h.d]] = some (I o2)) (h51c : (lim cfg).pure 51 [.agg [I bm.n, I bm.d], .agg [I bt.n, I bt.d]] = some (I o3)) (d1 : decide (o1 < 0) = false) (d2 : decide (o2 > 0) = false) (d3 : decide (o3 > 0) = false) (h38 : (lim cfg).pure 38 [zh p, I s, I ax, .agg [I sp.lo, I sp.hi]] = some (.tup [.agg [I x1.lo, I x1.hi], I 0])) (h38m : (lim cfg).pure 38 [.agg [I p.sheets, .sl false [] 5 none, .sl false [.agg [I j.a, I j.b, I j.axis, I j.seenA, I j.errA, I j.seenB, I j.errB]] 7 none], I s, I ax, .agg [I sp.lo, I sp.hi]] = some (.tup [.agg [I x2.lo, I x2.hi], I 0])) (h40 : (lim cfg).pure 40 [zh p, I s, .agg [I sp.lo, I sp.hi]] = some (.tup [.agg [I y1.lo, I y1.hi], I 0])) (h40m : (lim cfg).pure 40 [.agg [I p.sheets, .sl false [] 5 none, .sl false [.agg [I j.a, I j.b, I j.axis, I j.seenA, I j.errA, I j.seenB, I j.errB]] 7 none], I s, .agg [I sp.lo, I sp.hi]] = some (.tup [.agg [I y2.lo, I y2.hi], I 0])) (h60a : (lim cfg).pure 60 [.agg [I x2.lo, I x2.hi], .agg [I x1.lo, I x1.hi]] = some (B true)) (h60b : (lim cfg).pure 60 [.agg [I y2.lo, I y2.hi], .agg [I y1.lo, I y1.hi]] = some (B true)) (tms : List (Nat × D)) (g3 : get tms 3 = B true) (g4 : get tms 4 = I s) (g5 : get tms 5 = I t) (g6 : get tms 6 = I ax) (g9 : get tms 9 = .lref 0 0 3 0) (g10 : get tms 10 = .lref 1 0 5 0) (g11 : get tms 11 = .lref 2 0 7 0) (g16 : get tms 16 = .lref 3 0 2 0) (g17 : get tms 17 = .lref 4 0 3 0) (g105 : get tms 105 = .agg [I p.sheets, .sl p.nm (p.marks.map zm) (zs p.nm 5) none, .sl p.nj (p.joins.map zj) (zs p.nj 7) none]) (g106 : get tms 106 = I s) (g107 : get tms 107 = I ax) :
    EvU cfg (lim cfg) 13 F o5c (o5c.toList.drop 3) [.code r5c] ⟨305, tms, [(0, ⟨[zh p], 3, false⟩), (1, ⟨[.agg [I m.sheet, I m.axis, I m.tru, I m.seen, I m.err]], 5, false⟩), (2, ⟨[.agg [I j.a, I j.b, I j.axis, I j.seenA, I j.errA, I j.seenB, I j.errB]], 7, false⟩), (3, ⟨[.agg [I sp.lo, I sp.hi]], 2, false⟩), (4, ⟨[.agg [B r.join, I r.at_, B r.back]], 3, false⟩)], 5, 0⟩ = some (B true) := by
  dsimp only [o5c, r5c, c5c, opsOf, zB, zo, Tryd.f13, List.drop]
  repeat' first | (intro hb; first | cases hb | skip) | ((first | apply z6 | apply zc); (· rfl); (· simp (disch := assumption) only [go_sem, Nat.reduceEqDiff, Nat.reduceAdd, bP, zd, Nat.reduceLeDiff, Nat.reduceLT, Nat.reduceMul, List.length_append, decide_eq_true_eq, z7, z0, Int.reduceToNat, Int.reduceLE, Int.reduceLT, Int.reduceBNe, Int.reduceBEq, g3, g4, g5, g6, g9, g10, g11, g16, g17, g105, g106, g107, zG, zz, only, keysO, zU, bI, ck58, ck59, q1, q2, h20, h30, bne_self_eq_false, beq_self_eq_true, zy.snapAll, zx.snapAll, zy.ids, zy.idsL, zx.ids, zx.idsL, List.length_map, Nat.zero_lt_succ, ite_self, h20m, h19, h19m, h51a, h51b, h51c, d1, d2, d3, h38, h38m, h40, h40m, h60a, h60b]; rfl); (· simp only [go_sem, Nat.reduceLT, Nat.reduceEqDiff]; rfl); (· rfl); first | (apply zb; (· simp only [go_sem, Nat.reduceLT]; rfl); (· simp only [go_sem, Nat.reduceLT]; rfl)) | (apply zf; (· simp only [go_sem, Nat.reduceLT]; rfl))) | ((first | apply z9 | apply za); (· rfl); (· simp only [go_sem, Nat.reduceLT]; rfl)) | (apply z8; (· simp only [go_sem, Nat.reduceEqDiff])) | (apply z5; (· simp only [go_sem, Nat.reduceEqDiff])) | (apply ze; (· kernel_rfl); (· kernel_rfl)) | (simp only [bW, if_true, Nat.reduceEqDiff, if_false])
  all_goals refine S25 p r s ax l h hwf hk hl hh hret hnor _ _ _ (by decide) ?_ ?_ ?_ ?_ ?_ ?_ ?_ ?_ ?_ ?_ ?_ ?_
  all_goals first | rfl | exact g4 | exact g6 | exact g9 | exact g17 | exact g257 | exact g258

theorem S5jeex {F : Exit → St → Option D} (p : Paper) (m : Mark) (j : Join) (s t ax : Int) (sp : Span) (r : Reason) (l h : Ratio) (e : Int) (hwf : p.wf) (hk : zu p ax [s] = 0) (hl : l = loF p s ax) (hh : h = hiF p s ax) (hm1 : p.marks.length ≤ 1000) (hj1 : p.joins.length ≤ 1000) (hret : ∀ st, get st.tmps 18 = B true → F .ret st = some (B true)) (hnor : ∀ st, get st.tmps 18 = B true → F .normal st = some (B true)) (h20 : (lim cfg).pure 20 [zh p, I s, I ax] = some (.tup [.agg [I l.n, I l.d], .agg [I h.n, I h.d], I 0]))
    (q1 : (lim cfg).inl 58 [.sl p.nm (p.marks.map zm) (zs p.nm 5) none] [] 7 = some (.lsl 7 0 0 5 (some 0), [(7, ⟨[], 5, false⟩)], 8)) (q2 : (lim cfg).inl 59 [.sl p.nj (p.joins.map zj) (zs p.nj 7) none] [] 8 = some (.lsl 8 0 0 7 (some 0), [(8, ⟨[], 7, false⟩)], 9)) (h30 : (lim cfg).pure 30 [.agg [I p.sheets, .sl false [] 5 none, .sl false [.agg [I j.a, I j.b, I j.axis, I j.seenA, I j.errA, I j.seenB, I j.errB]] 7 none]] = some (.tup [B false, I e])) (tms : List (Nat × D)) (g3 : get tms 3 = B true) (g4 : get tms 4 = I s) (g5 : get tms 5 = I t) (g6 : get tms 6 = I ax) (g9 : get tms 9 = .lref 0 0 3 0) (g10 : get tms 10 = .lref 1 0 5 0) (g11 : get tms 11 = .lref 2 0 7 0) (g16 : get tms 16 = .lref 3 0 2 0) (g17 : get tms 17 = .lref 4 0 3 0) (g105 : get tms 105 = .agg [I p.sheets, .sl p.nm (p.marks.map zm) (zs p.nm 5) none, .sl p.nj (p.joins.map zj) (zs p.nj 7) none]) (g106 : get tms 106 = I s) (g107 : get tms 107 = I ax) :
    EvU cfg (lim cfg) 13 F o5c (o5c.toList.drop 3) [.code r5c] ⟨305, tms, [(0, ⟨[zh p], 3, false⟩), (1, ⟨[.agg [I m.sheet, I m.axis, I m.tru, I m.seen, I m.err]], 5, false⟩), (2, ⟨[.agg [I j.a, I j.b, I j.axis, I j.seenA, I j.errA, I j.seenB, I j.errB]], 7, false⟩), (3, ⟨[.agg [I sp.lo, I sp.hi]], 2, false⟩), (4, ⟨[.agg [B r.join, I r.at_, B r.back]], 3, false⟩)], 5, 0⟩ = some (B true) := by
  dsimp only [o5c, r5c, c5c, opsOf, zB, zo, Tryd.f13, List.drop]
  repeat' first | (intro hb; first | cases hb | skip) | ((first | apply z6 | apply zc); (· rfl); (· simp (disch := assumption) only [go_sem, Nat.reduceEqDiff, Nat.reduceAdd, bP, zd, Nat.reduceLeDiff, Nat.reduceLT, Nat.reduceMul, List.length_append, decide_eq_true_eq, z7, z0, Int.reduceToNat, Int.reduceLE, Int.reduceLT, Int.reduceBNe, Int.reduceBEq, g3, g4, g5, g6, g9, g10, g11, g16, g17, g105, g106, g107, zG, zz, only, keysO, zU, bI, ck58, ck59, q1, q2, h20, h30, bne_self_eq_false, beq_self_eq_true, zy.snapAll, zx.snapAll, zy.ids, zy.idsL, zx.ids, zx.idsL, List.length_map, Nat.zero_lt_succ, ite_self]; rfl); (· simp only [go_sem, Nat.reduceLT, Nat.reduceEqDiff]; rfl); (· rfl); first | (apply zb; (· simp only [go_sem, Nat.reduceLT]; rfl); (· simp only [go_sem, Nat.reduceLT]; rfl)) | (apply zf; (· simp only [go_sem, Nat.reduceLT]; rfl))) | ((first | apply z9 | apply za); (· rfl); (· simp only [go_sem, Nat.reduceLT]; rfl)) | (apply z8; (· simp only [go_sem, Nat.reduceEqDiff])) | (apply z5; (· simp only [go_sem, Nat.reduceEqDiff])) | (apply ze; (· kernel_rfl); (· kernel_rfl)) | (simp only [bW, if_true, Nat.reduceEqDiff, if_false])
  all_goals refine S25 p r s ax l h hwf hk hl hh hret hnor _ _ _ (by decide) ?_ ?_ ?_ ?_ ?_ ?_ ?_ ?_ ?_ ?_ ?_ ?_
  all_goals first | rfl | exact g4 | exact g6 | exact g9 | exact g17 | exact g257 | exact g258

theorem S5jeey {F : Exit → St → Option D} (p : Paper) (m : Mark) (j : Join) (s t ax : Int) (sp : Span) (r : Reason) (l h : Ratio) (lm hm bt bm : Ratio) (o1 o2 o3 : Int) (x1 x2 y1 y2 : Span) (hwf : p.wf) (hk : zu p ax [s] = 0) (hl : l = loF p s ax) (hh : h = hiF p s ax) (hm1 : p.marks.length ≤ 1000) (hj1 : p.joins.length ≤ 1000) (hret : ∀ st, get st.tmps 18 = B true → F .ret st = some (B true)) (hnor : ∀ st, get st.tmps 18 = B true → F .normal st = some (B true)) (h20 : (lim cfg).pure 20 [zh p, I s, I ax] = some (.tup [.agg [I l.n, I l.d], .agg [I h.n, I h.d], I 0]))
    (q1 : (lim cfg).inl 58 [.sl p.nm (p.marks.map zm) (zs p.nm 5) none] [] 7 = some (.lsl 7 0 0 5 (some 0), [(7, ⟨[], 5, false⟩)], 8)) (q2 : (lim cfg).inl 59 [.sl p.nj (p.joins.map zj) (zs p.nj 7) none] [] 8 = some (.lsl 8 0 0 7 (some 0), [(8, ⟨[], 7, false⟩)], 9)) (h30 : (lim cfg).pure 30 [.agg [I p.sheets, .sl false [] 5 none, .sl false [.agg [I j.a, I j.b, I j.axis, I j.seenA, I j.errA, I j.seenB, I j.errB]] 7 none]] = some (.tup [B true, I 0])) (h20m : (lim cfg).pure 20 [.agg [I p.sheets, .sl false [] 5 none, .sl false [.agg [I j.a, I j.b, I j.axis, I j.seenA, I j.errA, I j.seenB, I j.errB]] 7 none], I s, I ax] = some (.tup [.agg [I lm.n, I lm.d], .agg [I hm.n, I hm.d], I 0])) (h19 : (lim cfg).pure 19 [zh p, I s, I t, I ax] = some (.tup [.agg [I bt.n, I bt.d], I 0])) (h19m : (lim cfg).pure 19 [.agg [I p.sheets, .sl false [] 5 none, .sl false [.agg [I j.a, I j.b, I j.axis, I j.seenA, I j.errA, I j.seenB, I j.errB]] 7 none], I s, I t, I ax] = some (.tup [.agg [I bm.n, I bm.d], I 0])) (h51a : (lim cfg).pure 51 [.agg [I lm.n, I lm.d], .agg [I l.n, I l.d]] = some (I o1)) (h51b : (lim cfg).pure 51 [.agg [I hm.n, I hm.d], .agg [I h.n, I h.d]] = some (I o2)) (h51c : (lim cfg).pure 51 [.agg [I bm.n, I bm.d], .agg [I bt.n, I bt.d]] = some (I o3)) (d1 : decide (o1 < 0) = false) (d2 : decide (o2 > 0) = false) (d3 : decide (o3 > 0) = false) (h38 : (lim cfg).pure 38 [zh p, I s, I ax, .agg [I sp.lo, I sp.hi]] = some (.tup [.agg [I x1.lo, I x1.hi], I 0])) (h38m : (lim cfg).pure 38 [.agg [I p.sheets, .sl false [] 5 none, .sl false [.agg [I j.a, I j.b, I j.axis, I j.seenA, I j.errA, I j.seenB, I j.errB]] 7 none], I s, I ax, .agg [I sp.lo, I sp.hi]] = some (.tup [.agg [I x2.lo, I x2.hi], I 0])) (h40 : (lim cfg).pure 40 [zh p, I s, .agg [I sp.lo, I sp.hi]] = some (.tup [.agg [I y1.lo, I y1.hi], I 0])) (h40m : (lim cfg).pure 40 [.agg [I p.sheets, .sl false [] 5 none, .sl false [.agg [I j.a, I j.b, I j.axis, I j.seenA, I j.errA, I j.seenB, I j.errB]] 7 none], I s, .agg [I sp.lo, I sp.hi]] = some (.tup [.agg [I y2.lo, I y2.hi], I 0])) (h60a : (lim cfg).pure 60 [.agg [I x2.lo, I x2.hi], .agg [I x1.lo, I x1.hi]] = some (B true)) (h60b : (lim cfg).pure 60 [.agg [I y2.lo, I y2.hi], .agg [I y1.lo, I y1.hi]] = some (B true)) (tms : List (Nat × D)) (g3 : get tms 3 = B true) (g4 : get tms 4 = I s) (g5 : get tms 5 = I t) (g6 : get tms 6 = I ax) (g9 : get tms 9 = .lref 0 0 3 0) (g10 : get tms 10 = .lref 1 0 5 0) (g11 : get tms 11 = .lref 2 0 7 0) (g16 : get tms 16 = .lref 3 0 2 0) (g17 : get tms 17 = .lref 4 0 3 0) (g105 : get tms 105 = .agg [I p.sheets, .sl p.nm (p.marks.map zm) (zs p.nm 5) none, .sl p.nj (p.joins.map zj) (zs p.nj 7) none]) (g106 : get tms 106 = I s) (g107 : get tms 107 = I ax) :
    EvU cfg (lim cfg) 13 F o5c (o5c.toList.drop 3) [.code r5c] ⟨305, tms, [(0, ⟨[zh p], 3, false⟩), (1, ⟨[.agg [I m.sheet, I m.axis, I m.tru, I m.seen, I m.err]], 5, false⟩), (2, ⟨[.agg [I j.a, I j.b, I j.axis, I j.seenA, I j.errA, I j.seenB, I j.errB]], 7, false⟩), (3, ⟨[.agg [I sp.lo, I sp.hi]], 2, false⟩), (4, ⟨[.agg [B r.join, I r.at_, B r.back]], 3, false⟩)], 5, 0⟩ = some (B true) := by
  dsimp only [o5c, r5c, c5c, opsOf, zB, zo, Tryd.f13, List.drop]
  repeat' first | (intro hb; first | cases hb | skip) | ((first | apply z6 | apply zc); (· rfl); (· simp (disch := assumption) only [go_sem, Nat.reduceEqDiff, Nat.reduceAdd, bP, zd, Nat.reduceLeDiff, Nat.reduceLT, Nat.reduceMul, List.length_append, decide_eq_true_eq, z7, z0, Int.reduceToNat, Int.reduceLE, Int.reduceLT, Int.reduceBNe, Int.reduceBEq, g3, g4, g5, g6, g9, g10, g11, g16, g17, g105, g106, g107, zG, zz, only, keysO, zU, bI, ck58, ck59, q1, q2, h20, h30, bne_self_eq_false, beq_self_eq_true, zy.snapAll, zx.snapAll, zy.ids, zy.idsL, zx.ids, zx.idsL, List.length_map, Nat.zero_lt_succ, ite_self, h20m, h19, h19m, h51a, h51b, h51c, d1, d2, d3, h38, h38m, h40, h40m, h60a, h60b]; rfl); (· simp only [go_sem, Nat.reduceLT, Nat.reduceEqDiff]; rfl); (· rfl); first | (apply zb; (· simp only [go_sem, Nat.reduceLT]; rfl); (· simp only [go_sem, Nat.reduceLT]; rfl)) | (apply zf; (· simp only [go_sem, Nat.reduceLT]; rfl))) | ((first | apply z9 | apply za); (· rfl); (· simp only [go_sem, Nat.reduceLT]; rfl)) | (apply z8; (· simp only [go_sem, Nat.reduceEqDiff])) | (apply z5; (· simp only [go_sem, Nat.reduceEqDiff])) | (apply ze; (· kernel_rfl); (· kernel_rfl)) | (simp only [bW, if_true, Nat.reduceEqDiff, if_false])
  all_goals refine S25 p r s ax l h hwf hk hl hh hret hnor _ _ _ (by decide) ?_ ?_ ?_ ?_ ?_ ?_ ?_ ?_ ?_ ?_ ?_ ?_
  all_goals first | rfl | exact g4 | exact g6 | exact g9 | exact g17 | exact g257 | exact g258

theorem S5jecx {F : Exit → St → Option D} (p : Paper) (m : Mark) (j : Join) (s t ax : Int) (sp : Span) (r : Reason) (l h : Ratio) (e : Int) (hwf : p.wf) (hk : zu p ax [s] = 0) (hl : l = loF p s ax) (hh : h = hiF p s ax) (hm1 : p.marks.length ≤ 1000) (hj1 : p.joins.length ≤ 1000) (hret : ∀ st, get st.tmps 18 = B true → F .ret st = some (B true)) (hnor : ∀ st, get st.tmps 18 = B true → F .normal st = some (B true)) (h20 : (lim cfg).pure 20 [zh p, I s, I ax] = some (.tup [.agg [I l.n, I l.d], .agg [I h.n, I h.d], I 0]))
    (q1 : (lim cfg).inl 58 [.sl p.nm (p.marks.map zm) (zs p.nm 5) none] [] 7 = some (.lsl 7 0 0 5 (some 0), [(7, ⟨[], 5, false⟩)], 8)) (q2 : (lim cfg).inl 59 [.sl p.nj (p.joins.map zj) (zs p.nj 7) none] [] 8 = some (.lsl 9 0 p.joins.length 7 none, [(8, ⟨[], 7, false⟩), (9, ⟨p.joins.map zj, 7, false⟩)], 10)) (h30 : (lim cfg).pure 30 [.agg [I p.sheets, .sl false [] 5 none, .sl false (List.map zj p.joins ++ [.agg [I j.a, I j.b, I j.axis, I j.seenA, I j.errA, I j.seenB, I j.errB]]) 7 none]] = some (.tup [B false, I e])) (tms : List (Nat × D)) (g3 : get tms 3 = B true) (g4 : get tms 4 = I s) (g5 : get tms 5 = I t) (g6 : get tms 6 = I ax) (g9 : get tms 9 = .lref 0 0 3 0) (g10 : get tms 10 = .lref 1 0 5 0) (g11 : get tms 11 = .lref 2 0 7 0) (g16 : get tms 16 = .lref 3 0 2 0) (g17 : get tms 17 = .lref 4 0 3 0) (g105 : get tms 105 = .agg [I p.sheets, .sl p.nm (p.marks.map zm) (zs p.nm 5) none, .sl p.nj (p.joins.map zj) (zs p.nj 7) none]) (g106 : get tms 106 = I s) (g107 : get tms 107 = I ax) :
    EvU cfg (lim cfg) 13 F o5c (o5c.toList.drop 3) [.code r5c] ⟨305, tms, [(0, ⟨[zh p], 3, false⟩), (1, ⟨[.agg [I m.sheet, I m.axis, I m.tru, I m.seen, I m.err]], 5, false⟩), (2, ⟨[.agg [I j.a, I j.b, I j.axis, I j.seenA, I j.errA, I j.seenB, I j.errB]], 7, false⟩), (3, ⟨[.agg [I sp.lo, I sp.hi]], 2, false⟩), (4, ⟨[.agg [B r.join, I r.at_, B r.back]], 3, false⟩)], 5, 0⟩ = some (B true) := by
  have hle : (p.joins.length + 1 ≤ p.joins.length) = False := by simp
  have hb1 : ((p.joins.length + 1) * 56 ≤ big) = True := by simp [big]; omega
  have hb2 : (p.joins.length + 1 ≤ big) = True := by simp [big]; omega
  have hsA : ∀ g n, snapAll (snap g (n + 2)) (List.map zj p.joins ++ [.agg [I j.a, I j.b, I j.axis, I j.seenA, I j.errA, I j.seenB, I j.errB]]) = some (List.map zj p.joins ++ [.agg [I j.a, I j.b, I j.axis, I j.seenA, I j.errA, I j.seenB, I j.errB]], []) := by
    intro g n
    have := zx.snapAll g n (p.joins ++ [j])
    rw [List.map_append] at this
    exact this
  have htA : List.take (p.joins.length + 1) (List.map zj p.joins ++ [.agg [I j.a, I j.b, I j.axis, I j.seenA, I j.errA, I j.seenB, I j.errB]]) = List.map zj p.joins ++ [.agg [I j.a, I j.b, I j.axis, I j.seenA, I j.errA, I j.seenB, I j.errB]] := z0 _ _
  have hok : allOk 7 (List.map zj p.joins) = true := zx.allOk _
  dsimp only [o5c, r5c, c5c, opsOf, zB, zo, Tryd.f13, List.drop]
  repeat' first | (intro hb; first | cases hb | skip) | ((first | apply z6 | apply zc); (· rfl); (· simp (disch := assumption) only [go_sem, Nat.reduceEqDiff, Nat.reduceAdd, bP, zd, Nat.reduceLeDiff, Nat.reduceLT, Nat.reduceMul, List.length_append, decide_eq_true_eq, z7, z0, Int.reduceToNat, Int.reduceLE, Int.reduceLT, Int.reduceBNe, Int.reduceBEq, g3, g4, g5, g6, g9, g10, g11, g16, g17, g105, g106, g107, zG, zz, only, keysO, zU, bI, ck58, ck59, q1, q2, h20, h30, bne_self_eq_false, beq_self_eq_true, zy.snapAll, zx.snapAll, zy.ids, zy.idsL, zx.ids, zx.idsL, List.length_map, Nat.zero_lt_succ, ite_self, hle, hb1, hb2, hsA, htA, hok]; rfl); (· simp only [go_sem, Nat.reduceLT, Nat.reduceEqDiff]; rfl); (· rfl); first | (apply zb; (· simp only [go_sem, Nat.reduceLT]; rfl); (· simp only [go_sem, Nat.reduceLT]; rfl)) | (apply zf; (· simp only [go_sem, Nat.reduceLT]; rfl))) | ((first | apply z9 | apply za); (· rfl); (· simp only [go_sem, Nat.reduceLT]; rfl)) | (apply z8; (· simp only [go_sem, Nat.reduceEqDiff])) | (apply z5; (· simp only [go_sem, Nat.reduceEqDiff])) | (apply ze; (· kernel_rfl); (· kernel_rfl)) | (simp only [bW, if_true, Nat.reduceEqDiff, if_false])
  all_goals refine S25 p r s ax l h hwf hk hl hh hret hnor _ _ _ (by decide) ?_ ?_ ?_ ?_ ?_ ?_ ?_ ?_ ?_ ?_ ?_ ?_
  all_goals first | rfl | exact g4 | exact g6 | exact g9 | exact g17 | exact g257 | exact g258

theorem S5jecy {F : Exit → St → Option D} (p : Paper) (m : Mark) (j : Join) (s t ax : Int) (sp : Span) (r : Reason) (l h : Ratio) (lm hm bt bm : Ratio) (o1 o2 o3 : Int) (x1 x2 y1 y2 : Span) (hwf : p.wf) (hk : zu p ax [s] = 0) (hl : l = loF p s ax) (hh : h = hiF p s ax) (hm1 : p.marks.length ≤ 1000) (hj1 : p.joins.length ≤ 1000) (hret : ∀ st, get st.tmps 18 = B true → F .ret st = some (B true)) (hnor : ∀ st, get st.tmps 18 = B true → F .normal st = some (B true)) (h20 : (lim cfg).pure 20 [zh p, I s, I ax] = some (.tup [.agg [I l.n, I l.d], .agg [I h.n, I h.d], I 0]))
    (q1 : (lim cfg).inl 58 [.sl p.nm (p.marks.map zm) (zs p.nm 5) none] [] 7 = some (.lsl 7 0 0 5 (some 0), [(7, ⟨[], 5, false⟩)], 8)) (q2 : (lim cfg).inl 59 [.sl p.nj (p.joins.map zj) (zs p.nj 7) none] [] 8 = some (.lsl 9 0 p.joins.length 7 none, [(8, ⟨[], 7, false⟩), (9, ⟨p.joins.map zj, 7, false⟩)], 10)) (h30 : (lim cfg).pure 30 [.agg [I p.sheets, .sl false [] 5 none, .sl false (List.map zj p.joins ++ [.agg [I j.a, I j.b, I j.axis, I j.seenA, I j.errA, I j.seenB, I j.errB]]) 7 none]] = some (.tup [B true, I 0])) (h20m : (lim cfg).pure 20 [.agg [I p.sheets, .sl false [] 5 none, .sl false (List.map zj p.joins ++ [.agg [I j.a, I j.b, I j.axis, I j.seenA, I j.errA, I j.seenB, I j.errB]]) 7 none], I s, I ax] = some (.tup [.agg [I lm.n, I lm.d], .agg [I hm.n, I hm.d], I 0])) (h19 : (lim cfg).pure 19 [zh p, I s, I t, I ax] = some (.tup [.agg [I bt.n, I bt.d], I 0])) (h19m : (lim cfg).pure 19 [.agg [I p.sheets, .sl false [] 5 none, .sl false (List.map zj p.joins ++ [.agg [I j.a, I j.b, I j.axis, I j.seenA, I j.errA, I j.seenB, I j.errB]]) 7 none], I s, I t, I ax] = some (.tup [.agg [I bm.n, I bm.d], I 0])) (h51a : (lim cfg).pure 51 [.agg [I lm.n, I lm.d], .agg [I l.n, I l.d]] = some (I o1)) (h51b : (lim cfg).pure 51 [.agg [I hm.n, I hm.d], .agg [I h.n, I h.d]] = some (I o2)) (h51c : (lim cfg).pure 51 [.agg [I bm.n, I bm.d], .agg [I bt.n, I bt.d]] = some (I o3)) (d1 : decide (o1 < 0) = false) (d2 : decide (o2 > 0) = false) (d3 : decide (o3 > 0) = false) (h38 : (lim cfg).pure 38 [zh p, I s, I ax, .agg [I sp.lo, I sp.hi]] = some (.tup [.agg [I x1.lo, I x1.hi], I 0])) (h38m : (lim cfg).pure 38 [.agg [I p.sheets, .sl false [] 5 none, .sl false (List.map zj p.joins ++ [.agg [I j.a, I j.b, I j.axis, I j.seenA, I j.errA, I j.seenB, I j.errB]]) 7 none], I s, I ax, .agg [I sp.lo, I sp.hi]] = some (.tup [.agg [I x2.lo, I x2.hi], I 0])) (h40 : (lim cfg).pure 40 [zh p, I s, .agg [I sp.lo, I sp.hi]] = some (.tup [.agg [I y1.lo, I y1.hi], I 0])) (h40m : (lim cfg).pure 40 [.agg [I p.sheets, .sl false [] 5 none, .sl false (List.map zj p.joins ++ [.agg [I j.a, I j.b, I j.axis, I j.seenA, I j.errA, I j.seenB, I j.errB]]) 7 none], I s, .agg [I sp.lo, I sp.hi]] = some (.tup [.agg [I y2.lo, I y2.hi], I 0])) (h60a : (lim cfg).pure 60 [.agg [I x2.lo, I x2.hi], .agg [I x1.lo, I x1.hi]] = some (B true)) (h60b : (lim cfg).pure 60 [.agg [I y2.lo, I y2.hi], .agg [I y1.lo, I y1.hi]] = some (B true)) (tms : List (Nat × D)) (g3 : get tms 3 = B true) (g4 : get tms 4 = I s) (g5 : get tms 5 = I t) (g6 : get tms 6 = I ax) (g9 : get tms 9 = .lref 0 0 3 0) (g10 : get tms 10 = .lref 1 0 5 0) (g11 : get tms 11 = .lref 2 0 7 0) (g16 : get tms 16 = .lref 3 0 2 0) (g17 : get tms 17 = .lref 4 0 3 0) (g105 : get tms 105 = .agg [I p.sheets, .sl p.nm (p.marks.map zm) (zs p.nm 5) none, .sl p.nj (p.joins.map zj) (zs p.nj 7) none]) (g106 : get tms 106 = I s) (g107 : get tms 107 = I ax) :
    EvU cfg (lim cfg) 13 F o5c (o5c.toList.drop 3) [.code r5c] ⟨305, tms, [(0, ⟨[zh p], 3, false⟩), (1, ⟨[.agg [I m.sheet, I m.axis, I m.tru, I m.seen, I m.err]], 5, false⟩), (2, ⟨[.agg [I j.a, I j.b, I j.axis, I j.seenA, I j.errA, I j.seenB, I j.errB]], 7, false⟩), (3, ⟨[.agg [I sp.lo, I sp.hi]], 2, false⟩), (4, ⟨[.agg [B r.join, I r.at_, B r.back]], 3, false⟩)], 5, 0⟩ = some (B true) := by
  have hle : (p.joins.length + 1 ≤ p.joins.length) = False := by simp
  have hb1 : ((p.joins.length + 1) * 56 ≤ big) = True := by simp [big]; omega
  have hb2 : (p.joins.length + 1 ≤ big) = True := by simp [big]; omega
  have hsA : ∀ g n, snapAll (snap g (n + 2)) (List.map zj p.joins ++ [.agg [I j.a, I j.b, I j.axis, I j.seenA, I j.errA, I j.seenB, I j.errB]]) = some (List.map zj p.joins ++ [.agg [I j.a, I j.b, I j.axis, I j.seenA, I j.errA, I j.seenB, I j.errB]], []) := by
    intro g n
    have := zx.snapAll g n (p.joins ++ [j])
    rw [List.map_append] at this
    exact this
  have htA : List.take (p.joins.length + 1) (List.map zj p.joins ++ [.agg [I j.a, I j.b, I j.axis, I j.seenA, I j.errA, I j.seenB, I j.errB]]) = List.map zj p.joins ++ [.agg [I j.a, I j.b, I j.axis, I j.seenA, I j.errA, I j.seenB, I j.errB]] := z0 _ _
  have hok : allOk 7 (List.map zj p.joins) = true := zx.allOk _
  dsimp only [o5c, r5c, c5c, opsOf, zB, zo, Tryd.f13, List.drop]
  repeat' first | (intro hb; first | cases hb | skip) | ((first | apply z6 | apply zc); (· rfl); (· simp (disch := assumption) only [go_sem, Nat.reduceEqDiff, Nat.reduceAdd, bP, zd, Nat.reduceLeDiff, Nat.reduceLT, Nat.reduceMul, List.length_append, decide_eq_true_eq, z7, z0, Int.reduceToNat, Int.reduceLE, Int.reduceLT, Int.reduceBNe, Int.reduceBEq, g3, g4, g5, g6, g9, g10, g11, g16, g17, g105, g106, g107, zG, zz, only, keysO, zU, bI, ck58, ck59, q1, q2, h20, h30, bne_self_eq_false, beq_self_eq_true, zy.snapAll, zx.snapAll, zy.ids, zy.idsL, zx.ids, zx.idsL, List.length_map, Nat.zero_lt_succ, ite_self, hle, hb1, hb2, hsA, htA, hok, h20m, h19, h19m, h51a, h51b, h51c, d1, d2, d3, h38, h38m, h40, h40m, h60a, h60b]; rfl); (· simp only [go_sem, Nat.reduceLT, Nat.reduceEqDiff]; rfl); (· rfl); first | (apply zb; (· simp only [go_sem, Nat.reduceLT]; rfl); (· simp only [go_sem, Nat.reduceLT]; rfl)) | (apply zf; (· simp only [go_sem, Nat.reduceLT]; rfl))) | ((first | apply z9 | apply za); (· rfl); (· simp only [go_sem, Nat.reduceLT]; rfl)) | (apply z8; (· simp only [go_sem, Nat.reduceEqDiff])) | (apply z5; (· simp only [go_sem, Nat.reduceEqDiff])) | (apply ze; (· kernel_rfl); (· kernel_rfl)) | (simp only [bW, if_true, Nat.reduceEqDiff, if_false])
  all_goals refine S25 p r s ax l h hwf hk hl hh hret hnor _ _ _ (by decide) ?_ ?_ ?_ ?_ ?_ ?_ ?_ ?_ ?_ ?_ ?_ ?_
  all_goals first | rfl | exact g4 | exact g6 | exact g9 | exact g17 | exact g257 | exact g258

theorem S5jcnx {F : Exit → St → Option D} (p : Paper) (m : Mark) (j : Join) (s t ax : Int) (sp : Span) (r : Reason) (l h : Ratio) (e : Int) (hwf : p.wf) (hk : zu p ax [s] = 0) (hl : l = loF p s ax) (hh : h = hiF p s ax) (hm1 : p.marks.length ≤ 1000) (hj1 : p.joins.length ≤ 1000) (hret : ∀ st, get st.tmps 18 = B true → F .ret st = some (B true)) (hnor : ∀ st, get st.tmps 18 = B true → F .normal st = some (B true)) (h20 : (lim cfg).pure 20 [zh p, I s, I ax] = some (.tup [.agg [I l.n, I l.d], .agg [I h.n, I h.d], I 0]))
    (q1 : (lim cfg).inl 58 [.sl p.nm (p.marks.map zm) (zs p.nm 5) none] [] 7 = some (.lsl 8 0 p.marks.length 5 none, [(7, ⟨[], 5, false⟩), (8, ⟨p.marks.map zm, 5, false⟩)], 9)) (q2 : (lim cfg).inl 59 [.sl p.nj (p.joins.map zj) (zs p.nj 7) none] [] 9 = some (.sl true [] 0 none, [], 9)) (h30 : (lim cfg).pure 30 [.agg [I p.sheets, .sl false (List.map zm p.marks) 5 none, .sl false [.agg [I j.a, I j.b, I j.axis, I j.seenA, I j.errA, I j.seenB, I j.errB]] 7 none]] = some (.tup [B false, I e])) (tms : List (Nat × D)) (g3 : get tms 3 = B true) (g4 : get tms 4 = I s) (g5 : get tms 5 = I t) (g6 : get tms 6 = I ax) (g9 : get tms 9 = .lref 0 0 3 0) (g10 : get tms 10 = .lref 1 0 5 0) (g11 : get tms 11 = .lref 2 0 7 0) (g16 : get tms 16 = .lref 3 0 2 0) (g17 : get tms 17 = .lref 4 0 3 0) (g105 : get tms 105 = .agg [I p.sheets, .sl p.nm (p.marks.map zm) (zs p.nm 5) none, .sl p.nj (p.joins.map zj) (zs p.nj 7) none]) (g106 : get tms 106 = I s) (g107 : get tms 107 = I ax) :
    EvU cfg (lim cfg) 13 F o5c (o5c.toList.drop 3) [.code r5c] ⟨305, tms, [(0, ⟨[zh p], 3, false⟩), (1, ⟨[.agg [I m.sheet, I m.axis, I m.tru, I m.seen, I m.err]], 5, false⟩), (2, ⟨[.agg [I j.a, I j.b, I j.axis, I j.seenA, I j.errA, I j.seenB, I j.errB]], 7, false⟩), (3, ⟨[.agg [I sp.lo, I sp.hi]], 2, false⟩), (4, ⟨[.agg [B r.join, I r.at_, B r.back]], 3, false⟩)], 5, 0⟩ = some (B true) := by
  dsimp only [o5c, r5c, c5c, opsOf, zB, zo, Tryd.f13, List.drop]
  repeat' first | (intro hb; first | cases hb | skip) | ((first | apply z6 | apply zc); (· rfl); (· simp (disch := assumption) only [go_sem, Nat.reduceEqDiff, Nat.reduceAdd, bP, zd, Nat.reduceLeDiff, Nat.reduceLT, Nat.reduceMul, List.length_append, decide_eq_true_eq, z7, z0, Int.reduceToNat, Int.reduceLE, Int.reduceLT, Int.reduceBNe, Int.reduceBEq, g3, g4, g5, g6, g9, g10, g11, g16, g17, g105, g106, g107, zG, zz, only, keysO, zU, bI, ck58, ck59, q1, q2, h20, h30, bne_self_eq_false, beq_self_eq_true, zy.snapAll, zx.snapAll, zy.ids, zy.idsL, zx.ids, zx.idsL, List.length_map, Nat.zero_lt_succ, ite_self]; rfl); (· simp only [go_sem, Nat.reduceLT, Nat.reduceEqDiff]; rfl); (· rfl); first | (apply zb; (· simp only [go_sem, Nat.reduceLT]; rfl); (· simp only [go_sem, Nat.reduceLT]; rfl)) | (apply zf; (· simp only [go_sem, Nat.reduceLT]; rfl))) | ((first | apply z9 | apply za); (· rfl); (· simp only [go_sem, Nat.reduceLT]; rfl)) | (apply z8; (· simp only [go_sem, Nat.reduceEqDiff])) | (apply z5; (· simp only [go_sem, Nat.reduceEqDiff])) | (apply ze; (· kernel_rfl); (· kernel_rfl)) | (simp only [bW, if_true, Nat.reduceEqDiff, if_false])
  all_goals refine S25 p r s ax l h hwf hk hl hh hret hnor _ _ _ (by decide) ?_ ?_ ?_ ?_ ?_ ?_ ?_ ?_ ?_ ?_ ?_ ?_
  all_goals first | rfl | exact g4 | exact g6 | exact g9 | exact g17 | exact g257 | exact g258

theorem S5jcny {F : Exit → St → Option D} (p : Paper) (m : Mark) (j : Join) (s t ax : Int) (sp : Span) (r : Reason) (l h : Ratio) (lm hm bt bm : Ratio) (o1 o2 o3 : Int) (x1 x2 y1 y2 : Span) (hwf : p.wf) (hk : zu p ax [s] = 0) (hl : l = loF p s ax) (hh : h = hiF p s ax) (hm1 : p.marks.length ≤ 1000) (hj1 : p.joins.length ≤ 1000) (hret : ∀ st, get st.tmps 18 = B true → F .ret st = some (B true)) (hnor : ∀ st, get st.tmps 18 = B true → F .normal st = some (B true)) (h20 : (lim cfg).pure 20 [zh p, I s, I ax] = some (.tup [.agg [I l.n, I l.d], .agg [I h.n, I h.d], I 0]))
    (q1 : (lim cfg).inl 58 [.sl p.nm (p.marks.map zm) (zs p.nm 5) none] [] 7 = some (.lsl 8 0 p.marks.length 5 none, [(7, ⟨[], 5, false⟩), (8, ⟨p.marks.map zm, 5, false⟩)], 9)) (q2 : (lim cfg).inl 59 [.sl p.nj (p.joins.map zj) (zs p.nj 7) none] [] 9 = some (.sl true [] 0 none, [], 9)) (h30 : (lim cfg).pure 30 [.agg [I p.sheets, .sl false (List.map zm p.marks) 5 none, .sl false [.agg [I j.a, I j.b, I j.axis, I j.seenA, I j.errA, I j.seenB, I j.errB]] 7 none]] = some (.tup [B true, I 0])) (h20m : (lim cfg).pure 20 [.agg [I p.sheets, .sl false (List.map zm p.marks) 5 none, .sl false [.agg [I j.a, I j.b, I j.axis, I j.seenA, I j.errA, I j.seenB, I j.errB]] 7 none], I s, I ax] = some (.tup [.agg [I lm.n, I lm.d], .agg [I hm.n, I hm.d], I 0])) (h19 : (lim cfg).pure 19 [zh p, I s, I t, I ax] = some (.tup [.agg [I bt.n, I bt.d], I 0])) (h19m : (lim cfg).pure 19 [.agg [I p.sheets, .sl false (List.map zm p.marks) 5 none, .sl false [.agg [I j.a, I j.b, I j.axis, I j.seenA, I j.errA, I j.seenB, I j.errB]] 7 none], I s, I t, I ax] = some (.tup [.agg [I bm.n, I bm.d], I 0])) (h51a : (lim cfg).pure 51 [.agg [I lm.n, I lm.d], .agg [I l.n, I l.d]] = some (I o1)) (h51b : (lim cfg).pure 51 [.agg [I hm.n, I hm.d], .agg [I h.n, I h.d]] = some (I o2)) (h51c : (lim cfg).pure 51 [.agg [I bm.n, I bm.d], .agg [I bt.n, I bt.d]] = some (I o3)) (d1 : decide (o1 < 0) = false) (d2 : decide (o2 > 0) = false) (d3 : decide (o3 > 0) = false) (h38 : (lim cfg).pure 38 [zh p, I s, I ax, .agg [I sp.lo, I sp.hi]] = some (.tup [.agg [I x1.lo, I x1.hi], I 0])) (h38m : (lim cfg).pure 38 [.agg [I p.sheets, .sl false (List.map zm p.marks) 5 none, .sl false [.agg [I j.a, I j.b, I j.axis, I j.seenA, I j.errA, I j.seenB, I j.errB]] 7 none], I s, I ax, .agg [I sp.lo, I sp.hi]] = some (.tup [.agg [I x2.lo, I x2.hi], I 0])) (h40 : (lim cfg).pure 40 [zh p, I s, .agg [I sp.lo, I sp.hi]] = some (.tup [.agg [I y1.lo, I y1.hi], I 0])) (h40m : (lim cfg).pure 40 [.agg [I p.sheets, .sl false (List.map zm p.marks) 5 none, .sl false [.agg [I j.a, I j.b, I j.axis, I j.seenA, I j.errA, I j.seenB, I j.errB]] 7 none], I s, .agg [I sp.lo, I sp.hi]] = some (.tup [.agg [I y2.lo, I y2.hi], I 0])) (h60a : (lim cfg).pure 60 [.agg [I x2.lo, I x2.hi], .agg [I x1.lo, I x1.hi]] = some (B true)) (h60b : (lim cfg).pure 60 [.agg [I y2.lo, I y2.hi], .agg [I y1.lo, I y1.hi]] = some (B true)) (tms : List (Nat × D)) (g3 : get tms 3 = B true) (g4 : get tms 4 = I s) (g5 : get tms 5 = I t) (g6 : get tms 6 = I ax) (g9 : get tms 9 = .lref 0 0 3 0) (g10 : get tms 10 = .lref 1 0 5 0) (g11 : get tms 11 = .lref 2 0 7 0) (g16 : get tms 16 = .lref 3 0 2 0) (g17 : get tms 17 = .lref 4 0 3 0) (g105 : get tms 105 = .agg [I p.sheets, .sl p.nm (p.marks.map zm) (zs p.nm 5) none, .sl p.nj (p.joins.map zj) (zs p.nj 7) none]) (g106 : get tms 106 = I s) (g107 : get tms 107 = I ax) :
    EvU cfg (lim cfg) 13 F o5c (o5c.toList.drop 3) [.code r5c] ⟨305, tms, [(0, ⟨[zh p], 3, false⟩), (1, ⟨[.agg [I m.sheet, I m.axis, I m.tru, I m.seen, I m.err]], 5, false⟩), (2, ⟨[.agg [I j.a, I j.b, I j.axis, I j.seenA, I j.errA, I j.seenB, I j.errB]], 7, false⟩), (3, ⟨[.agg [I sp.lo, I sp.hi]], 2, false⟩), (4, ⟨[.agg [B r.join, I r.at_, B r.back]], 3, false⟩)], 5, 0⟩ = some (B true) := by
  dsimp only [o5c, r5c, c5c, opsOf, zB, zo, Tryd.f13, List.drop]
  repeat' first | (intro hb; first | cases hb | skip) | ((first | apply z6 | apply zc); (· rfl); (· simp (disch := assumption) only [go_sem, Nat.reduceEqDiff, Nat.reduceAdd, bP, zd, Nat.reduceLeDiff, Nat.reduceLT, Nat.reduceMul, List.length_append, decide_eq_true_eq, z7, z0, Int.reduceToNat, Int.reduceLE, Int.reduceLT, Int.reduceBNe, Int.reduceBEq, g3, g4, g5, g6, g9, g10, g11, g16, g17, g105, g106, g107, zG, zz, only, keysO, zU, bI, ck58, ck59, q1, q2, h20, h30, bne_self_eq_false, beq_self_eq_true, zy.snapAll, zx.snapAll, zy.ids, zy.idsL, zx.ids, zx.idsL, List.length_map, Nat.zero_lt_succ, ite_self, h20m, h19, h19m, h51a, h51b, h51c, d1, d2, d3, h38, h38m, h40, h40m, h60a, h60b]; rfl); (· simp only [go_sem, Nat.reduceLT, Nat.reduceEqDiff]; rfl); (· rfl); first | (apply zb; (· simp only [go_sem, Nat.reduceLT]; rfl); (· simp only [go_sem, Nat.reduceLT]; rfl)) | (apply zf; (· simp only [go_sem, Nat.reduceLT]; rfl))) | ((first | apply z9 | apply za); (· rfl); (· simp only [go_sem, Nat.reduceLT]; rfl)) | (apply z8; (· simp only [go_sem, Nat.reduceEqDiff])) | (apply z5; (· simp only [go_sem, Nat.reduceEqDiff])) | (apply ze; (· kernel_rfl); (· kernel_rfl)) | (simp only [bW, if_true, Nat.reduceEqDiff, if_false])
  all_goals refine S25 p r s ax l h hwf hk hl hh hret hnor _ _ _ (by decide) ?_ ?_ ?_ ?_ ?_ ?_ ?_ ?_ ?_ ?_ ?_ ?_
  all_goals first | rfl | exact g4 | exact g6 | exact g9 | exact g17 | exact g257 | exact g258

theorem S5jcex {F : Exit → St → Option D} (p : Paper) (m : Mark) (j : Join) (s t ax : Int) (sp : Span) (r : Reason) (l h : Ratio) (e : Int) (hwf : p.wf) (hk : zu p ax [s] = 0) (hl : l = loF p s ax) (hh : h = hiF p s ax) (hm1 : p.marks.length ≤ 1000) (hj1 : p.joins.length ≤ 1000) (hret : ∀ st, get st.tmps 18 = B true → F .ret st = some (B true)) (hnor : ∀ st, get st.tmps 18 = B true → F .normal st = some (B true)) (h20 : (lim cfg).pure 20 [zh p, I s, I ax] = some (.tup [.agg [I l.n, I l.d], .agg [I h.n, I h.d], I 0]))
    (q1 : (lim cfg).inl 58 [.sl p.nm (p.marks.map zm) (zs p.nm 5) none] [] 7 = some (.lsl 8 0 p.marks.length 5 none, [(7, ⟨[], 5, false⟩), (8, ⟨p.marks.map zm, 5, false⟩)], 9)) (q2 : (lim cfg).inl 59 [.sl p.nj (p.joins.map zj) (zs p.nj 7) none] [] 9 = some (.lsl 9 0 0 7 (some 0), [(9, ⟨[], 7, false⟩)], 10)) (h30 : (lim cfg).pure 30 [.agg [I p.sheets, .sl false (List.map zm p.marks) 5 none, .sl false [.agg [I j.a, I j.b, I j.axis, I j.seenA, I j.errA, I j.seenB, I j.errB]] 7 none]] = some (.tup [B false, I e])) (tms : List (Nat × D)) (g3 : get tms 3 = B true) (g4 : get tms 4 = I s) (g5 : get tms 5 = I t) (g6 : get tms 6 = I ax) (g9 : get tms 9 = .lref 0 0 3 0) (g10 : get tms 10 = .lref 1 0 5 0) (g11 : get tms 11 = .lref 2 0 7 0) (g16 : get tms 16 = .lref 3 0 2 0) (g17 : get tms 17 = .lref 4 0 3 0) (g105 : get tms 105 = .agg [I p.sheets, .sl p.nm (p.marks.map zm) (zs p.nm 5) none, .sl p.nj (p.joins.map zj) (zs p.nj 7) none]) (g106 : get tms 106 = I s) (g107 : get tms 107 = I ax) :
    EvU cfg (lim cfg) 13 F o5c (o5c.toList.drop 3) [.code r5c] ⟨305, tms, [(0, ⟨[zh p], 3, false⟩), (1, ⟨[.agg [I m.sheet, I m.axis, I m.tru, I m.seen, I m.err]], 5, false⟩), (2, ⟨[.agg [I j.a, I j.b, I j.axis, I j.seenA, I j.errA, I j.seenB, I j.errB]], 7, false⟩), (3, ⟨[.agg [I sp.lo, I sp.hi]], 2, false⟩), (4, ⟨[.agg [B r.join, I r.at_, B r.back]], 3, false⟩)], 5, 0⟩ = some (B true) := by
  dsimp only [o5c, r5c, c5c, opsOf, zB, zo, Tryd.f13, List.drop]
  repeat' first | (intro hb; first | cases hb | skip) | ((first | apply z6 | apply zc); (· rfl); (· simp (disch := assumption) only [go_sem, Nat.reduceEqDiff, Nat.reduceAdd, bP, zd, Nat.reduceLeDiff, Nat.reduceLT, Nat.reduceMul, List.length_append, decide_eq_true_eq, z7, z0, Int.reduceToNat, Int.reduceLE, Int.reduceLT, Int.reduceBNe, Int.reduceBEq, g3, g4, g5, g6, g9, g10, g11, g16, g17, g105, g106, g107, zG, zz, only, keysO, zU, bI, ck58, ck59, q1, q2, h20, h30, bne_self_eq_false, beq_self_eq_true, zy.snapAll, zx.snapAll, zy.ids, zy.idsL, zx.ids, zx.idsL, List.length_map, Nat.zero_lt_succ, ite_self]; rfl); (· simp only [go_sem, Nat.reduceLT, Nat.reduceEqDiff]; rfl); (· rfl); first | (apply zb; (· simp only [go_sem, Nat.reduceLT]; rfl); (· simp only [go_sem, Nat.reduceLT]; rfl)) | (apply zf; (· simp only [go_sem, Nat.reduceLT]; rfl))) | ((first | apply z9 | apply za); (· rfl); (· simp only [go_sem, Nat.reduceLT]; rfl)) | (apply z8; (· simp only [go_sem, Nat.reduceEqDiff])) | (apply z5; (· simp only [go_sem, Nat.reduceEqDiff])) | (apply ze; (· kernel_rfl); (· kernel_rfl)) | (simp only [bW, if_true, Nat.reduceEqDiff, if_false])
  all_goals refine S25 p r s ax l h hwf hk hl hh hret hnor _ _ _ (by decide) ?_ ?_ ?_ ?_ ?_ ?_ ?_ ?_ ?_ ?_ ?_ ?_
  all_goals first | rfl | exact g4 | exact g6 | exact g9 | exact g17 | exact g257 | exact g258

theorem S5jcey {F : Exit → St → Option D} (p : Paper) (m : Mark) (j : Join) (s t ax : Int) (sp : Span) (r : Reason) (l h : Ratio) (lm hm bt bm : Ratio) (o1 o2 o3 : Int) (x1 x2 y1 y2 : Span) (hwf : p.wf) (hk : zu p ax [s] = 0) (hl : l = loF p s ax) (hh : h = hiF p s ax) (hm1 : p.marks.length ≤ 1000) (hj1 : p.joins.length ≤ 1000) (hret : ∀ st, get st.tmps 18 = B true → F .ret st = some (B true)) (hnor : ∀ st, get st.tmps 18 = B true → F .normal st = some (B true)) (h20 : (lim cfg).pure 20 [zh p, I s, I ax] = some (.tup [.agg [I l.n, I l.d], .agg [I h.n, I h.d], I 0]))
    (q1 : (lim cfg).inl 58 [.sl p.nm (p.marks.map zm) (zs p.nm 5) none] [] 7 = some (.lsl 8 0 p.marks.length 5 none, [(7, ⟨[], 5, false⟩), (8, ⟨p.marks.map zm, 5, false⟩)], 9)) (q2 : (lim cfg).inl 59 [.sl p.nj (p.joins.map zj) (zs p.nj 7) none] [] 9 = some (.lsl 9 0 0 7 (some 0), [(9, ⟨[], 7, false⟩)], 10)) (h30 : (lim cfg).pure 30 [.agg [I p.sheets, .sl false (List.map zm p.marks) 5 none, .sl false [.agg [I j.a, I j.b, I j.axis, I j.seenA, I j.errA, I j.seenB, I j.errB]] 7 none]] = some (.tup [B true, I 0])) (h20m : (lim cfg).pure 20 [.agg [I p.sheets, .sl false (List.map zm p.marks) 5 none, .sl false [.agg [I j.a, I j.b, I j.axis, I j.seenA, I j.errA, I j.seenB, I j.errB]] 7 none], I s, I ax] = some (.tup [.agg [I lm.n, I lm.d], .agg [I hm.n, I hm.d], I 0])) (h19 : (lim cfg).pure 19 [zh p, I s, I t, I ax] = some (.tup [.agg [I bt.n, I bt.d], I 0])) (h19m : (lim cfg).pure 19 [.agg [I p.sheets, .sl false (List.map zm p.marks) 5 none, .sl false [.agg [I j.a, I j.b, I j.axis, I j.seenA, I j.errA, I j.seenB, I j.errB]] 7 none], I s, I t, I ax] = some (.tup [.agg [I bm.n, I bm.d], I 0])) (h51a : (lim cfg).pure 51 [.agg [I lm.n, I lm.d], .agg [I l.n, I l.d]] = some (I o1)) (h51b : (lim cfg).pure 51 [.agg [I hm.n, I hm.d], .agg [I h.n, I h.d]] = some (I o2)) (h51c : (lim cfg).pure 51 [.agg [I bm.n, I bm.d], .agg [I bt.n, I bt.d]] = some (I o3)) (d1 : decide (o1 < 0) = false) (d2 : decide (o2 > 0) = false) (d3 : decide (o3 > 0) = false) (h38 : (lim cfg).pure 38 [zh p, I s, I ax, .agg [I sp.lo, I sp.hi]] = some (.tup [.agg [I x1.lo, I x1.hi], I 0])) (h38m : (lim cfg).pure 38 [.agg [I p.sheets, .sl false (List.map zm p.marks) 5 none, .sl false [.agg [I j.a, I j.b, I j.axis, I j.seenA, I j.errA, I j.seenB, I j.errB]] 7 none], I s, I ax, .agg [I sp.lo, I sp.hi]] = some (.tup [.agg [I x2.lo, I x2.hi], I 0])) (h40 : (lim cfg).pure 40 [zh p, I s, .agg [I sp.lo, I sp.hi]] = some (.tup [.agg [I y1.lo, I y1.hi], I 0])) (h40m : (lim cfg).pure 40 [.agg [I p.sheets, .sl false (List.map zm p.marks) 5 none, .sl false [.agg [I j.a, I j.b, I j.axis, I j.seenA, I j.errA, I j.seenB, I j.errB]] 7 none], I s, .agg [I sp.lo, I sp.hi]] = some (.tup [.agg [I y2.lo, I y2.hi], I 0])) (h60a : (lim cfg).pure 60 [.agg [I x2.lo, I x2.hi], .agg [I x1.lo, I x1.hi]] = some (B true)) (h60b : (lim cfg).pure 60 [.agg [I y2.lo, I y2.hi], .agg [I y1.lo, I y1.hi]] = some (B true)) (tms : List (Nat × D)) (g3 : get tms 3 = B true) (g4 : get tms 4 = I s) (g5 : get tms 5 = I t) (g6 : get tms 6 = I ax) (g9 : get tms 9 = .lref 0 0 3 0) (g10 : get tms 10 = .lref 1 0 5 0) (g11 : get tms 11 = .lref 2 0 7 0) (g16 : get tms 16 = .lref 3 0 2 0) (g17 : get tms 17 = .lref 4 0 3 0) (g105 : get tms 105 = .agg [I p.sheets, .sl p.nm (p.marks.map zm) (zs p.nm 5) none, .sl p.nj (p.joins.map zj) (zs p.nj 7) none]) (g106 : get tms 106 = I s) (g107 : get tms 107 = I ax) :
    EvU cfg (lim cfg) 13 F o5c (o5c.toList.drop 3) [.code r5c] ⟨305, tms, [(0, ⟨[zh p], 3, false⟩), (1, ⟨[.agg [I m.sheet, I m.axis, I m.tru, I m.seen, I m.err]], 5, false⟩), (2, ⟨[.agg [I j.a, I j.b, I j.axis, I j.seenA, I j.errA, I j.seenB, I j.errB]], 7, false⟩), (3, ⟨[.agg [I sp.lo, I sp.hi]], 2, false⟩), (4, ⟨[.agg [B r.join, I r.at_, B r.back]], 3, false⟩)], 5, 0⟩ = some (B true) := by
  dsimp only [o5c, r5c, c5c, opsOf, zB, zo, Tryd.f13, List.drop]
  repeat' first | (intro hb; first | cases hb | skip) | ((first | apply z6 | apply zc); (· rfl); (· simp (disch := assumption) only [go_sem, Nat.reduceEqDiff, Nat.reduceAdd, bP, zd, Nat.reduceLeDiff, Nat.reduceLT, Nat.reduceMul, List.length_append, decide_eq_true_eq, z7, z0, Int.reduceToNat, Int.reduceLE, Int.reduceLT, Int.reduceBNe, Int.reduceBEq, g3, g4, g5, g6, g9, g10, g11, g16, g17, g105, g106, g107, zG, zz, only, keysO, zU, bI, ck58, ck59, q1, q2, h20, h30, bne_self_eq_false, beq_self_eq_true, zy.snapAll, zx.snapAll, zy.ids, zy.idsL, zx.ids, zx.idsL, List.length_map, Nat.zero_lt_succ, ite_self, h20m, h19, h19m, h51a, h51b, h51c, d1, d2, d3, h38, h38m, h40, h40m, h60a, h60b]; rfl); (· simp only [go_sem, Nat.reduceLT, Nat.reduceEqDiff]; rfl); (· rfl); first | (apply zb; (· simp only [go_sem, Nat.reduceLT]; rfl); (· simp only [go_sem, Nat.reduceLT]; rfl)) | (apply zf; (· simp only [go_sem, Nat.reduceLT]; rfl))) | ((first | apply z9 | apply za); (· rfl); (· simp only [go_sem, Nat.reduceLT]; rfl)) | (apply z8; (· simp only [go_sem, Nat.reduceEqDiff])) | (apply z5; (· simp only [go_sem, Nat.reduceEqDiff])) | (apply ze; (· kernel_rfl); (· kernel_rfl)) | (simp only [bW, if_true, Nat.reduceEqDiff, if_false])
  all_goals refine S25 p r s ax l h hwf hk hl hh hret hnor _ _ _ (by decide) ?_ ?_ ?_ ?_ ?_ ?_ ?_ ?_ ?_ ?_ ?_ ?_
  all_goals first | rfl | exact g4 | exact g6 | exact g9 | exact g17 | exact g257 | exact g258

theorem S5jccx {F : Exit → St → Option D} (p : Paper) (m : Mark) (j : Join) (s t ax : Int) (sp : Span) (r : Reason) (l h : Ratio) (e : Int) (hwf : p.wf) (hk : zu p ax [s] = 0) (hl : l = loF p s ax) (hh : h = hiF p s ax) (hm1 : p.marks.length ≤ 1000) (hj1 : p.joins.length ≤ 1000) (hret : ∀ st, get st.tmps 18 = B true → F .ret st = some (B true)) (hnor : ∀ st, get st.tmps 18 = B true → F .normal st = some (B true)) (h20 : (lim cfg).pure 20 [zh p, I s, I ax] = some (.tup [.agg [I l.n, I l.d], .agg [I h.n, I h.d], I 0]))
    (q1 : (lim cfg).inl 58 [.sl p.nm (p.marks.map zm) (zs p.nm 5) none] [] 7 = some (.lsl 8 0 p.marks.length 5 none, [(7, ⟨[], 5, false⟩), (8, ⟨p.marks.map zm, 5, false⟩)], 9)) (q2 : (lim cfg).inl 59 [.sl p.nj (p.joins.map zj) (zs p.nj 7) none] [] 9 = some (.lsl 10 0 p.joins.length 7 none, [(9, ⟨[], 7, false⟩), (10, ⟨p.joins.map zj, 7, false⟩)], 11)) (h30 : (lim cfg).pure 30 [.agg [I p.sheets, .sl false (List.map zm p.marks) 5 none, .sl false (List.map zj p.joins ++ [.agg [I j.a, I j.b, I j.axis, I j.seenA, I j.errA, I j.seenB, I j.errB]]) 7 none]] = some (.tup [B false, I e])) (tms : List (Nat × D)) (g3 : get tms 3 = B true) (g4 : get tms 4 = I s) (g5 : get tms 5 = I t) (g6 : get tms 6 = I ax) (g9 : get tms 9 = .lref 0 0 3 0) (g10 : get tms 10 = .lref 1 0 5 0) (g11 : get tms 11 = .lref 2 0 7 0) (g16 : get tms 16 = .lref 3 0 2 0) (g17 : get tms 17 = .lref 4 0 3 0) (g105 : get tms 105 = .agg [I p.sheets, .sl p.nm (p.marks.map zm) (zs p.nm 5) none, .sl p.nj (p.joins.map zj) (zs p.nj 7) none]) (g106 : get tms 106 = I s) (g107 : get tms 107 = I ax) :
    EvU cfg (lim cfg) 13 F o5c (o5c.toList.drop 3) [.code r5c] ⟨305, tms, [(0, ⟨[zh p], 3, false⟩), (1, ⟨[.agg [I m.sheet, I m.axis, I m.tru, I m.seen, I m.err]], 5, false⟩), (2, ⟨[.agg [I j.a, I j.b, I j.axis, I j.seenA, I j.errA, I j.seenB, I j.errB]], 7, false⟩), (3, ⟨[.agg [I sp.lo, I sp.hi]], 2, false⟩), (4, ⟨[.agg [B r.join, I r.at_, B r.back]], 3, false⟩)], 5, 0⟩ = some (B true) := by
  have hle : (p.joins.length + 1 ≤ p.joins.length) = False := by simp
  have hb1 : ((p.joins.length + 1) * 56 ≤ big) = True := by simp [big]; omega
  have hb2 : (p.joins.length + 1 ≤ big) = True := by simp [big]; omega
  have hsA : ∀ g n, snapAll (snap g (n + 2)) (List.map zj p.joins ++ [.agg [I j.a, I j.b, I j.axis, I j.seenA, I j.errA, I j.seenB, I j.errB]]) = some (List.map zj p.joins ++ [.agg [I j.a, I j.b, I j.axis, I j.seenA, I j.errA, I j.seenB, I j.errB]], []) := by
    intro g n
    have := zx.snapAll g n (p.joins ++ [j])
    rw [List.map_append] at this
    exact this
  have htA : List.take (p.joins.length + 1) (List.map zj p.joins ++ [.agg [I j.a, I j.b, I j.axis, I j.seenA, I j.errA, I j.seenB, I j.errB]]) = List.map zj p.joins ++ [.agg [I j.a, I j.b, I j.axis, I j.seenA, I j.errA, I j.seenB, I j.errB]] := z0 _ _
  have hok : allOk 7 (List.map zj p.joins) = true := zx.allOk _
  dsimp only [o5c, r5c, c5c, opsOf, zB, zo, Tryd.f13, List.drop]
  repeat' first | (intro hb; first | cases hb | skip) | ((first | apply z6 | apply zc); (· rfl); (· simp (disch := assumption) only [go_sem, Nat.reduceEqDiff, Nat.reduceAdd, bP, zd, Nat.reduceLeDiff, Nat.reduceLT, Nat.reduceMul, List.length_append, decide_eq_true_eq, z7, z0, Int.reduceToNat, Int.reduceLE, Int.reduceLT, Int.reduceBNe, Int.reduceBEq, g3, g4, g5, g6, g9, g10, g11, g16, g17, g105, g106, g107, zG, zz, only, keysO, zU, bI, ck58, ck59, q1, q2, h20, h30, bne_self_eq_false, beq_self_eq_true, zy.snapAll, zx.snapAll, zy.ids, zy.idsL, zx.ids, zx.idsL, List.length_map, Nat.zero_lt_succ, ite_self, hle, hb1, hb2, hsA, htA, hok]; rfl); (· simp only [go_sem, Nat.reduceLT, Nat.reduceEqDiff]; rfl); (· rfl); first | (apply zb; (· simp only [go_sem, Nat.reduceLT]; rfl); (· simp only [go_sem, Nat.reduceLT]; rfl)) | (apply zf; (· simp only [go_sem, Nat.reduceLT]; rfl))) | ((first | apply z9 | apply za); (· rfl); (· simp only [go_sem, Nat.reduceLT]; rfl)) | (apply z8; (· simp only [go_sem, Nat.reduceEqDiff])) | (apply z5; (· simp only [go_sem, Nat.reduceEqDiff])) | (apply ze; (· kernel_rfl); (· kernel_rfl)) | (simp only [bW, if_true, Nat.reduceEqDiff, if_false])
  all_goals refine S25 p r s ax l h hwf hk hl hh hret hnor _ _ _ (by decide) ?_ ?_ ?_ ?_ ?_ ?_ ?_ ?_ ?_ ?_ ?_ ?_
  all_goals first | rfl | exact g4 | exact g6 | exact g9 | exact g17 | exact g257 | exact g258

theorem S5jccy {F : Exit → St → Option D} (p : Paper) (m : Mark) (j : Join) (s t ax : Int) (sp : Span) (r : Reason) (l h : Ratio) (lm hm bt bm : Ratio) (o1 o2 o3 : Int) (x1 x2 y1 y2 : Span) (hwf : p.wf) (hk : zu p ax [s] = 0) (hl : l = loF p s ax) (hh : h = hiF p s ax) (hm1 : p.marks.length ≤ 1000) (hj1 : p.joins.length ≤ 1000) (hret : ∀ st, get st.tmps 18 = B true → F .ret st = some (B true)) (hnor : ∀ st, get st.tmps 18 = B true → F .normal st = some (B true)) (h20 : (lim cfg).pure 20 [zh p, I s, I ax] = some (.tup [.agg [I l.n, I l.d], .agg [I h.n, I h.d], I 0]))
    (q1 : (lim cfg).inl 58 [.sl p.nm (p.marks.map zm) (zs p.nm 5) none] [] 7 = some (.lsl 8 0 p.marks.length 5 none, [(7, ⟨[], 5, false⟩), (8, ⟨p.marks.map zm, 5, false⟩)], 9)) (q2 : (lim cfg).inl 59 [.sl p.nj (p.joins.map zj) (zs p.nj 7) none] [] 9 = some (.lsl 10 0 p.joins.length 7 none, [(9, ⟨[], 7, false⟩), (10, ⟨p.joins.map zj, 7, false⟩)], 11)) (h30 : (lim cfg).pure 30 [.agg [I p.sheets, .sl false (List.map zm p.marks) 5 none, .sl false (List.map zj p.joins ++ [.agg [I j.a, I j.b, I j.axis, I j.seenA, I j.errA, I j.seenB, I j.errB]]) 7 none]] = some (.tup [B true, I 0])) (h20m : (lim cfg).pure 20 [.agg [I p.sheets, .sl false (List.map zm p.marks) 5 none, .sl false (List.map zj p.joins ++ [.agg [I j.a, I j.b, I j.axis, I j.seenA, I j.errA, I j.seenB, I j.errB]]) 7 none], I s, I ax] = some (.tup [.agg [I lm.n, I lm.d], .agg [I hm.n, I hm.d], I 0])) (h19 : (lim cfg).pure 19 [zh p, I s, I t, I ax] = some (.tup [.agg [I bt.n, I bt.d], I 0])) (h19m : (lim cfg).pure 19 [.agg [I p.sheets, .sl false (List.map zm p.marks) 5 none, .sl false (List.map zj p.joins ++ [.agg [I j.a, I j.b, I j.axis, I j.seenA, I j.errA, I j.seenB, I j.errB]]) 7 none], I s, I t, I ax] = some (.tup [.agg [I bm.n, I bm.d], I 0])) (h51a : (lim cfg).pure 51 [.agg [I lm.n, I lm.d], .agg [I l.n, I l.d]] = some (I o1)) (h51b : (lim cfg).pure 51 [.agg [I hm.n, I hm.d], .agg [I h.n, I h.d]] = some (I o2)) (h51c : (lim cfg).pure 51 [.agg [I bm.n, I bm.d], .agg [I bt.n, I bt.d]] = some (I o3)) (d1 : decide (o1 < 0) = false) (d2 : decide (o2 > 0) = false) (d3 : decide (o3 > 0) = false) (h38 : (lim cfg).pure 38 [zh p, I s, I ax, .agg [I sp.lo, I sp.hi]] = some (.tup [.agg [I x1.lo, I x1.hi], I 0])) (h38m : (lim cfg).pure 38 [.agg [I p.sheets, .sl false (List.map zm p.marks) 5 none, .sl false (List.map zj p.joins ++ [.agg [I j.a, I j.b, I j.axis, I j.seenA, I j.errA, I j.seenB, I j.errB]]) 7 none], I s, I ax, .agg [I sp.lo, I sp.hi]] = some (.tup [.agg [I x2.lo, I x2.hi], I 0])) (h40 : (lim cfg).pure 40 [zh p, I s, .agg [I sp.lo, I sp.hi]] = some (.tup [.agg [I y1.lo, I y1.hi], I 0])) (h40m : (lim cfg).pure 40 [.agg [I p.sheets, .sl false (List.map zm p.marks) 5 none, .sl false (List.map zj p.joins ++ [.agg [I j.a, I j.b, I j.axis, I j.seenA, I j.errA, I j.seenB, I j.errB]]) 7 none], I s, .agg [I sp.lo, I sp.hi]] = some (.tup [.agg [I y2.lo, I y2.hi], I 0])) (h60a : (lim cfg).pure 60 [.agg [I x2.lo, I x2.hi], .agg [I x1.lo, I x1.hi]] = some (B true)) (h60b : (lim cfg).pure 60 [.agg [I y2.lo, I y2.hi], .agg [I y1.lo, I y1.hi]] = some (B true)) (tms : List (Nat × D)) (g3 : get tms 3 = B true) (g4 : get tms 4 = I s) (g5 : get tms 5 = I t) (g6 : get tms 6 = I ax) (g9 : get tms 9 = .lref 0 0 3 0) (g10 : get tms 10 = .lref 1 0 5 0) (g11 : get tms 11 = .lref 2 0 7 0) (g16 : get tms 16 = .lref 3 0 2 0) (g17 : get tms 17 = .lref 4 0 3 0) (g105 : get tms 105 = .agg [I p.sheets, .sl p.nm (p.marks.map zm) (zs p.nm 5) none, .sl p.nj (p.joins.map zj) (zs p.nj 7) none]) (g106 : get tms 106 = I s) (g107 : get tms 107 = I ax) :
    EvU cfg (lim cfg) 13 F o5c (o5c.toList.drop 3) [.code r5c] ⟨305, tms, [(0, ⟨[zh p], 3, false⟩), (1, ⟨[.agg [I m.sheet, I m.axis, I m.tru, I m.seen, I m.err]], 5, false⟩), (2, ⟨[.agg [I j.a, I j.b, I j.axis, I j.seenA, I j.errA, I j.seenB, I j.errB]], 7, false⟩), (3, ⟨[.agg [I sp.lo, I sp.hi]], 2, false⟩), (4, ⟨[.agg [B r.join, I r.at_, B r.back]], 3, false⟩)], 5, 0⟩ = some (B true) := by
  have hle : (p.joins.length + 1 ≤ p.joins.length) = False := by simp
  have hb1 : ((p.joins.length + 1) * 56 ≤ big) = True := by simp [big]; omega
  have hb2 : (p.joins.length + 1 ≤ big) = True := by simp [big]; omega
  have hsA : ∀ g n, snapAll (snap g (n + 2)) (List.map zj p.joins ++ [.agg [I j.a, I j.b, I j.axis, I j.seenA, I j.errA, I j.seenB, I j.errB]]) = some (List.map zj p.joins ++ [.agg [I j.a, I j.b, I j.axis, I j.seenA, I j.errA, I j.seenB, I j.errB]], []) := by
    intro g n
    have := zx.snapAll g n (p.joins ++ [j])
    rw [List.map_append] at this
    exact this
  have htA : List.take (p.joins.length + 1) (List.map zj p.joins ++ [.agg [I j.a, I j.b, I j.axis, I j.seenA, I j.errA, I j.seenB, I j.errB]]) = List.map zj p.joins ++ [.agg [I j.a, I j.b, I j.axis, I j.seenA, I j.errA, I j.seenB, I j.errB]] := z0 _ _
  have hok : allOk 7 (List.map zj p.joins) = true := zx.allOk _
  dsimp only [o5c, r5c, c5c, opsOf, zB, zo, Tryd.f13, List.drop]
  repeat' first | (intro hb; first | cases hb | skip) | ((first | apply z6 | apply zc); (· rfl); (· simp (disch := assumption) only [go_sem, Nat.reduceEqDiff, Nat.reduceAdd, bP, zd, Nat.reduceLeDiff, Nat.reduceLT, Nat.reduceMul, List.length_append, decide_eq_true_eq, z7, z0, Int.reduceToNat, Int.reduceLE, Int.reduceLT, Int.reduceBNe, Int.reduceBEq, g3, g4, g5, g6, g9, g10, g11, g16, g17, g105, g106, g107, zG, zz, only, keysO, zU, bI, ck58, ck59, q1, q2, h20, h30, bne_self_eq_false, beq_self_eq_true, zy.snapAll, zx.snapAll, zy.ids, zy.idsL, zx.ids, zx.idsL, List.length_map, Nat.zero_lt_succ, ite_self, hle, hb1, hb2, hsA, htA, hok, h20m, h19, h19m, h51a, h51b, h51c, d1, d2, d3, h38, h38m, h40, h40m, h60a, h60b]; rfl); (· simp only [go_sem, Nat.reduceLT, Nat.reduceEqDiff]; rfl); (· rfl); first | (apply zb; (· simp only [go_sem, Nat.reduceLT]; rfl); (· simp only [go_sem, Nat.reduceLT]; rfl)) | (apply zf; (· simp only [go_sem, Nat.reduceLT]; rfl))) | ((first | apply z9 | apply za); (· rfl); (· simp only [go_sem, Nat.reduceLT]; rfl)) | (apply z8; (· simp only [go_sem, Nat.reduceEqDiff])) | (apply z5; (· simp only [go_sem, Nat.reduceEqDiff])) | (apply ze; (· kernel_rfl); (· kernel_rfl)) | (simp only [bW, if_true, Nat.reduceEqDiff, if_false])
  all_goals refine S25 p r s ax l h hwf hk hl hh hret hnor _ _ _ (by decide) ?_ ?_ ?_ ?_ ?_ ?_ ?_ ?_ ?_ ?_ ?_ ?_
  all_goals first | rfl | exact g4 | exact g6 | exact g9 | exact g17 | exact g257 | exact g258

end Go.VS
namespace Go.VS
open Go Go.Proofs
set_option maxHeartbeats 0
set_option linter.unusedSimpArgs false

set_option maxRecDepth 10000
theorem q58n (p : Paper) (h1 : p.nm = true) (h2 : p.marks = []) : (lim cfg).inl 58 [.sl p.nm (p.marks.map zm) (zs p.nm 5) none] [] 7 = some (.sl true [] 0 none, [], 7) := by rw [h1, h2]; exact n58_7.1
theorem q58e (p : Paper) (h1 : p.nm = false) (h2 : p.marks = []) : (lim cfg).inl 58 [.sl p.nm (p.marks.map zm) (zs p.nm 5) none] [] 7 = some (.lsl 7 0 0 5 (some 0), [(7, ⟨[], 5, false⟩)], 8) := by rw [h1, h2]; exact n58_7.2
theorem q58c (p : Paper) (h1 : p.nm = false) (h2 : p.marks ≠ []) (h3 : p.marks.length ≤ 1000) : (lim cfg).inl 58 [.sl p.nm (p.marks.map zm) (zs p.nm 5) none] [] 7 = some (.lsl 8 0 p.marks.length 5 none, [(7, ⟨[], 5, false⟩), (8, ⟨p.marks.map zm, 5, false⟩)], 9) := by
  cases hM : p.marks with
  | nil => exact absurd hM h2
  | cons m0 ms =>
    rw [hM] at h3
    rw [h1]
    exact i58_7 m0 ms (by simp at h3; omega)
theorem q59n_7 (p : Paper) (h1 : p.nj = true) (h2 : p.joins = []) : (lim cfg).inl 59 [.sl p.nj (p.joins.map zj) (zs p.nj 7) none] [] 7 = some (.sl true [] 0 none, [], 7) := by rw [h1, h2]; exact n59_7.1
theorem q59e_7 (p : Paper) (h1 : p.nj = false) (h2 : p.joins = []) : (lim cfg).inl 59 [.sl p.nj (p.joins.map zj) (zs p.nj 7) none] [] 7 = some (.lsl 7 0 0 7 (some 0), [(7, ⟨[], 7, false⟩)], 8) := by rw [h1, h2]; exact n59_7.2
theorem q59c_7 (p : Paper) (h1 : p.nj = false) (h2 : p.joins ≠ []) (h3 : p.joins.length ≤ 1000) : (lim cfg).inl 59 [.sl p.nj (p.joins.map zj) (zs p.nj 7) none] [] 7 = some (.lsl 8 0 p.joins.length 7 none, [(7, ⟨[], 7, false⟩), (8, ⟨p.joins.map zj, 7, false⟩)], 9) := by
  cases hM : p.joins with
  | nil => exact absurd hM h2
  | cons m0 ms =>
    rw [hM] at h3
    rw [h1]
    exact i59_7 m0 ms (by simp at h3; omega)
theorem q59n_8 (p : Paper) (h1 : p.nj = true) (h2 : p.joins = []) : (lim cfg).inl 59 [.sl p.nj (p.joins.map zj) (zs p.nj 7) none] [] 8 = some (.sl true [] 0 none, [], 8) := by rw [h1, h2]; exact n59_8.1
theorem q59e_8 (p : Paper) (h1 : p.nj = false) (h2 : p.joins = []) : (lim cfg).inl 59 [.sl p.nj (p.joins.map zj) (zs p.nj 7) none] [] 8 = some (.lsl 8 0 0 7 (some 0), [(8, ⟨[], 7, false⟩)], 9) := by rw [h1, h2]; exact n59_8.2
theorem q59c_8 (p : Paper) (h1 : p.nj = false) (h2 : p.joins ≠ []) (h3 : p.joins.length ≤ 1000) : (lim cfg).inl 59 [.sl p.nj (p.joins.map zj) (zs p.nj 7) none] [] 8 = some (.lsl 9 0 p.joins.length 7 none, [(8, ⟨[], 7, false⟩), (9, ⟨p.joins.map zj, 7, false⟩)], 10) := by
  cases hM : p.joins with
  | nil => exact absurd hM h2
  | cons m0 ms =>
    rw [hM] at h3
    rw [h1]
    exact i59_8 m0 ms (by simp at h3; omega)
theorem q59n_9 (p : Paper) (h1 : p.nj = true) (h2 : p.joins = []) : (lim cfg).inl 59 [.sl p.nj (p.joins.map zj) (zs p.nj 7) none] [] 9 = some (.sl true [] 0 none, [], 9) := by rw [h1, h2]; exact n59_9.1
theorem q59e_9 (p : Paper) (h1 : p.nj = false) (h2 : p.joins = []) : (lim cfg).inl 59 [.sl p.nj (p.joins.map zj) (zs p.nj 7) none] [] 9 = some (.lsl 9 0 0 7 (some 0), [(9, ⟨[], 7, false⟩)], 10) := by rw [h1, h2]; exact n59_9.2
theorem q59c_9 (p : Paper) (h1 : p.nj = false) (h2 : p.joins ≠ []) (h3 : p.joins.length ≤ 1000) : (lim cfg).inl 59 [.sl p.nj (p.joins.map zj) (zs p.nj 7) none] [] 9 = some (.lsl 10 0 p.joins.length 7 none, [(9, ⟨[], 7, false⟩), (10, ⟨p.joins.map zj, 7, false⟩)], 11) := by
  cases hM : p.joins with
  | nil => exact absurd hM h2
  | cons m0 ms =>
    rw [hM] at h3
    rw [h1]
    exact i59_9 m0 ms (by simp at h3; omega)
theorem nil_cases {α : Type} {b : Bool} {l : List α} (h : b = true → l = []) : (b = true ∧ l = []) ∨ (b = false ∧ l = []) ∨ (b = false ∧ l ≠ []) := by
  cases b with
  | true => exact .inl ⟨rfl, h rfl⟩
  | false =>
    cases l with
    | nil => exact .inr (.inl ⟨rfl, rfl⟩)
    | cons x r => exact .inr (.inr ⟨rfl, by simp⟩)

theorem S5 {F : Exit → St → Option D} (p : Paper) (m : Mark) (j : Join) (s t ax : Int) (sp : Span) (r : Reason) (b : Bool) (hwf : p.wf) (hok : zt p = true) (hs : zA p s = true) (ht : zA p t = true) (hax : isAxis ax = true) (hsp : spanOK sp = true) (hret : ∀ st, get st.tmps 18 = B true → F .ret st = some (B true)) (hnor : ∀ st, get st.tmps 18 = B true → F .normal st = some (B true)) (tms : List (Nat × D)) (g3 : get tms 3 = B b) (g4 : get tms 4 = I s) (g5 : get tms 5 = I t) (g6 : get tms 6 = I ax) (g9 : get tms 9 = .lref 0 0 3 0) (g10 : get tms 10 = .lref 1 0 5 0) (g11 : get tms 11 = .lref 2 0 7 0) (g16 : get tms 16 = .lref 3 0 2 0) (g17 : get tms 17 = .lref 4 0 3 0) (g105 : get tms 105 = .agg [I p.sheets, .sl p.nm (p.marks.map zm) (zs p.nm 5) none, .sl p.nj (p.joins.map zj) (zs p.nj 7) none]) (g106 : get tms 106 = I s) (g107 : get tms 107 = I ax) :
    EvU cfg (lim cfg) 13 F o5c (o5c.toList.drop 3) [.code r5c] ⟨305, tms, [(0, ⟨[zh p], 3, false⟩), (1, ⟨[.agg [I m.sheet, I m.axis, I m.tru, I m.seen, I m.err]], 5, false⟩), (2, ⟨[.agg [I j.a, I j.b, I j.axis, I j.seenA, I j.errA, I j.seenB, I j.errB]], 7, false⟩), (3, ⟨[.agg [I sp.lo, I sp.hi]], 2, false⟩), (4, ⟨[.agg [B r.join, I r.at_, B r.back]], 3, false⟩)], 5, 0⟩ = some (B true) := by
  have h20 := t20 p s ax hwf
  obtain ⟨o1, o2, hm24, hj24, -, -⟩ := zJ hok
  have hm1 : p.marks.length ≤ 1000 := by omega
  have hj1 : p.joins.length ≤ 1000 := by omega
  cases hp : possibleF p with
  | false =>
    have hk : zu p ax [s] = 31 := by unfold zu; rw [hok, hp]; rfl
    rw [hk, if_neg (by decide)] at h20
    dsimp only [o5c, r5c, c5c, opsOf, zB, zo, Tryd.f13, List.drop]
    repeat' first | (intro hb; first | cases hb | skip) | ((first | apply z6 | apply zc); (· rfl); (· simp (disch := assumption) only [go_sem, Nat.reduceEqDiff, Nat.reduceAdd, bP, zd, Nat.reduceLeDiff, Nat.reduceLT, Nat.reduceMul, List.length_append, decide_eq_true_eq, z7, z0, Int.reduceToNat, Int.reduceLE, Int.reduceLT, Int.reduceBNe, Int.reduceBEq, g3, g4, g5, g6, g9, g10, g11, g16, g17, g105, g106, g107, h20, beq_self_eq_true]; rfl); (· simp only [go_sem, Nat.reduceLT, Nat.reduceEqDiff]; rfl); (· rfl); first | (apply zb; (· simp only [go_sem, Nat.reduceLT]; rfl); (· simp only [go_sem, Nat.reduceLT]; rfl)) | (apply zf; (· simp only [go_sem, Nat.reduceLT]; rfl))) | ((first | apply z9 | apply za); (· rfl); (· simp only [go_sem, Nat.reduceLT]; rfl)) | (apply z8; (· simp only [go_sem, Nat.reduceEqDiff])) | (apply z5; (· simp only [go_sem, Nat.reduceEqDiff])) | (apply ze; (· kernel_rfl); (· kernel_rfl)) | (simp only [bW, if_true, Nat.reduceEqDiff, if_false])
    all_goals exact hret _ rfl
  | true =>
    have one : ∀ q : Paper, SubP p q → zt q = true → possibleF q = true → ∀ a, isAxis a = true → zu q a [s] = 0 ∧ zu q a [s, t] = 0 := by
      intro q hq h1 h2 a h3
      have e1 : zA q s = true := by unfold zA at hs ⊢; rw [← hq.1]; exact hs
      have e2 : zA q t = true := by unfold zA at ht ⊢; rw [← hq.1]; exact ht
      exact ⟨known_zero.2 ⟨h1, h2, by simp [e1], h3⟩, known_zero.2 ⟨h1, h2, by simp [e1, e2], h3⟩⟩
    obtain ⟨hk, hk2⟩ := one p ⟨rfl, fun _ h => h, fun _ h => h, Nat.le_refl _, Nat.le_refl _⟩ hok hp ax hax
    obtain ⟨hk0, -⟩ := one p ⟨rfl, fun _ h => h, fun _ h => h, Nat.le_refl _, Nat.le_refl _⟩ hok hp 0 rfl
    rw [if_pos hk] at h20
    have hsub := more_sub p b m j
    have hwf' := more_wf b m j hwf hm1 hj1
    have h30 := t30 (zE p b m j) hwf'
    obtain ⟨l, hl⟩ : ∃ l, l = loF p s ax := ⟨_, rfl⟩
    obtain ⟨h, hh⟩ : ∃ h, h = hiF p s ax := ⟨_, rfl⟩
    rw [← hl, ← hh] at h20
    cases hpm : (zt (zE p b m j) && possibleF (zE p b m j)) with
    | false =>
      have h30 : ∃ e : Int, (lim cfg).pure 30 [zh (zE p b m j)] = some (.tup [B false, I e]) := by
        cases hom : zt (zE p b m j) with
        | false => rw [hom] at h30; exact ⟨30, h30⟩
        | true =>
          rw [hom] at h30 hpm
          simp only [Bool.true_and] at hpm
          rw [hpm] at h30
          exact ⟨0, h30⟩
      obtain ⟨e, h30⟩ := h30
      rcases nil_cases hwf.1 with ⟨a1, a2⟩ | ⟨a1, a2⟩ | ⟨a1, a2⟩ <;> rcases nil_cases hwf.2.1 with ⟨b1, b2⟩ | ⟨b1, b2⟩ | ⟨b1, b2⟩ <;> cases b
      · have hX : zh (zE p false m j) = .agg [I p.sheets, .sl false [.agg [I m.sheet, I m.axis, I m.tru, I m.seen, I m.err]] 5 none, .sl true [] 0 none] := by simp [zE, zm, zj, zs_true, zQ, a1, a2, b1, b2]
        rw [hX] at h30
        exact S5mnnx p m j s t ax sp r l h _ hwf hk hl hh hm1 hj1 hret hnor h20 (q58n p a1 a2) (q59n_7 p b1 b2) h30 tms g3 g4 g5 g6 g9 g10 g11 g16 g17 g105 g106 g107
      · have hX : zh (zE p true m j) = .agg [I p.sheets, .sl true [] 0 none, .sl false [.agg [I j.a, I j.b, I j.axis, I j.seenA, I j.errA, I j.seenB, I j.errB]] 7 none] := by simp [zE, zm, zj, zs_true, zQ, a1, a2, b1, b2]
        rw [hX] at h30
        exact S5jnnx p m j s t ax sp r l h _ hwf hk hl hh hm1 hj1 hret hnor h20 (q58n p a1 a2) (q59n_7 p b1 b2) h30 tms g3 g4 g5 g6 g9 g10 g11 g16 g17 g105 g106 g107
      · have hX : zh (zE p false m j) = .agg [I p.sheets, .sl false [.agg [I m.sheet, I m.axis, I m.tru, I m.seen, I m.err]] 5 none, .sl false [] 7 none] := by simp [zE, zm, zj, zs_true, zQ, a1, a2, b1, b2]
        rw [hX] at h30
        exact S5mnex p m j s t ax sp r l h _ hwf hk hl hh hm1 hj1 hret hnor h20 (q58n p a1 a2) (q59e_7 p b1 b2) h30 tms g3 g4 g5 g6 g9 g10 g11 g16 g17 g105 g106 g107
      · have hX : zh (zE p true m j) = .agg [I p.sheets, .sl true [] 0 none, .sl false [.agg [I j.a, I j.b, I j.axis, I j.seenA, I j.errA, I j.seenB, I j.errB]] 7 none] := by simp [zE, zm, zj, zs_true, zQ, a1, a2, b1, b2]
        rw [hX] at h30
        exact S5jnex p m j s t ax sp r l h _ hwf hk hl hh hm1 hj1 hret hnor h20 (q58n p a1 a2) (q59e_7 p b1 b2) h30 tms g3 g4 g5 g6 g9 g10 g11 g16 g17 g105 g106 g107
      · have hX : zh (zE p false m j) = .agg [I p.sheets, .sl false [.agg [I m.sheet, I m.axis, I m.tru, I m.seen, I m.err]] 5 none, .sl false (List.map zj p.joins) 7 none] := by simp [zE, zm, zj, zs_true, zQ, a1, a2, b1, b2]
        rw [hX] at h30
        exact S5mncx p m j s t ax sp r l h _ hwf hk hl hh hm1 hj1 hret hnor h20 (q58n p a1 a2) (q59c_7 p b1 b2 hj1) h30 tms g3 g4 g5 g6 g9 g10 g11 g16 g17 g105 g106 g107
      · have hX : zh (zE p true m j) = .agg [I p.sheets, .sl true [] 0 none, .sl false (List.map zj p.joins ++ [.agg [I j.a, I j.b, I j.axis, I j.seenA, I j.errA, I j.seenB, I j.errB]]) 7 none] := by simp [zE, zm, zj, zs_true, zQ, a1, a2, b1, b2]
        rw [hX] at h30
        exact S5jncx p m j s t ax sp r l h _ hwf hk hl hh hm1 hj1 hret hnor h20 (q58n p a1 a2) (q59c_7 p b1 b2 hj1) h30 tms g3 g4 g5 g6 g9 g10 g11 g16 g17 g105 g106 g107
      · have hX : zh (zE p false m j) = .agg [I p.sheets, .sl false [.agg [I m.sheet, I m.axis, I m.tru, I m.seen, I m.err]] 5 none, .sl true [] 0 none] := by simp [zE, zm, zj, zs_true, zQ, a1, a2, b1, b2]
        rw [hX] at h30
        exact S5menx p m j s t ax sp r l h _ hwf hk hl hh hm1 hj1 hret hnor h20 (q58e p a1 a2) (q59n_8 p b1 b2) h30 tms g3 g4 g5 g6 g9 g10 g11 g16 g17 g105 g106 g107
      · have hX : zh (zE p true m j) = .agg [I p.sheets, .sl false [] 5 none, .sl false [.agg [I j.a, I j.b, I j.axis, I j.seenA, I j.errA, I j.seenB, I j.errB]] 7 none] := by simp [zE, zm, zj, zs_true, zQ, a1, a2, b1, b2]
        rw [hX] at h30
        exact S5jenx p m j s t ax sp r l h _ hwf hk hl hh hm1 hj1 hret hnor h20 (q58e p a1 a2) (q59n_8 p b1 b2) h30 tms g3 g4 g5 g6 g9 g10 g11 g16 g17 g105 g106 g107
      · have hX : zh (zE p false m j) = .agg [I p.sheets, .sl false [.agg [I m.sheet, I m.axis, I m.tru, I m.seen, I m.err]] 5 none, .sl false [] 7 none] := by simp [zE, zm, zj, zs_true, zQ, a1, a2, b1, b2]
        rw [hX] at h30
        exact S5meex p m j s t ax sp r l h _ hwf hk hl hh hm1 hj1 hret hnor h20 (q58e p a1 a2) (q59e_8 p b1 b2) h30 tms g3 g4 g5 g6 g9 g10 g11 g16 g17 g105 g106 g107
      · have hX : zh (zE p true m j) = .agg [I p.sheets, .sl false [] 5 none, .sl false [.agg [I j.a, I j.b, I j.axis, I j.seenA, I j.errA, I j.seenB, I j.errB]] 7 none] := by simp [zE, zm, zj, zs_true, zQ, a1, a2, b1, b2]
        rw [hX] at h30
        exact S5jeex p m j s t ax sp r l h _ hwf hk hl hh hm1 hj1 hret hnor h20 (q58e p a1 a2) (q59e_8 p b1 b2) h30 tms g3 g4 g5 g6 g9 g10 g11 g16 g17 g105 g106 g107
      · have hX : zh (zE p false m j) = .agg [I p.sheets, .sl false [.agg [I m.sheet, I m.axis, I m.tru, I m.seen, I m.err]] 5 none, .sl false (List.map zj p.joins) 7 none] := by simp [zE, zm, zj, zs_true, zQ, a1, a2, b1, b2]
        rw [hX] at h30
        exact S5mecx p m j s t ax sp r l h _ hwf hk hl hh hm1 hj1 hret hnor h20 (q58e p a1 a2) (q59c_8 p b1 b2 hj1) h30 tms g3 g4 g5 g6 g9 g10 g11 g16 g17 g105 g106 g107
      · have hX : zh (zE p true m j) = .agg [I p.sheets, .sl false [] 5 none, .sl false (List.map zj p.joins ++ [.agg [I j.a, I j.b, I j.axis, I j.seenA, I j.errA, I j.seenB, I j.errB]]) 7 none] := by simp [zE, zm, zj, zs_true, zQ, a1, a2, b1, b2]
        rw [hX] at h30
        exact S5jecx p m j s t ax sp r l h _ hwf hk hl hh hm1 hj1 hret hnor h20 (q58e p a1 a2) (q59c_8 p b1 b2 hj1) h30 tms g3 g4 g5 g6 g9 g10 g11 g16 g17 g105 g106 g107
      · have hX : zh (zE p false m j) = .agg [I p.sheets, .sl false (List.map zm p.marks ++ [.agg [I m.sheet, I m.axis, I m.tru, I m.seen, I m.err]]) 5 none, .sl true [] 0 none] := by simp [zE, zm, zj, zs_true, zQ, a1, a2, b1, b2]
        rw [hX] at h30
        exact S5mcnx p m j s t ax sp r l h _ hwf hk hl hh hm1 hj1 hret hnor h20 (q58c p a1 a2 hm1) (q59n_9 p b1 b2) h30 tms g3 g4 g5 g6 g9 g10 g11 g16 g17 g105 g106 g107
      · have hX : zh (zE p true m j) = .agg [I p.sheets, .sl false (List.map zm p.marks) 5 none, .sl false [.agg [I j.a, I j.b, I j.axis, I j.seenA, I j.errA, I j.seenB, I j.errB]] 7 none] := by simp [zE, zm, zj, zs_true, zQ, a1, a2, b1, b2]
        rw [hX] at h30
        exact S5jcnx p m j s t ax sp r l h _ hwf hk hl hh hm1 hj1 hret hnor h20 (q58c p a1 a2 hm1) (q59n_9 p b1 b2) h30 tms g3 g4 g5 g6 g9 g10 g11 g16 g17 g105 g106 g107
      · have hX : zh (zE p false m j) = .agg [I p.sheets, .sl false (List.map zm p.marks ++ [.agg [I m.sheet, I m.axis, I m.tru, I m.seen, I m.err]]) 5 none, .sl false [] 7 none] := by simp [zE, zm, zj, zs_true, zQ, a1, a2, b1, b2]
        rw [hX] at h30
        exact S5mcex p m j s t ax sp r l h _ hwf hk hl hh hm1 hj1 hret hnor h20 (q58c p a1 a2 hm1) (q59e_9 p b1 b2) h30 tms g3 g4 g5 g6 g9 g10 g11 g16 g17 g105 g106 g107
      · have hX : zh (zE p true m j) = .agg [I p.sheets, .sl false (List.map zm p.marks) 5 none, .sl false [.agg [I j.a, I j.b, I j.axis, I j.seenA, I j.errA, I j.seenB, I j.errB]] 7 none] := by simp [zE, zm, zj, zs_true, zQ, a1, a2, b1, b2]
        rw [hX] at h30
        exact S5jcex p m j s t ax sp r l h _ hwf hk hl hh hm1 hj1 hret hnor h20 (q58c p a1 a2 hm1) (q59e_9 p b1 b2) h30 tms g3 g4 g5 g6 g9 g10 g11 g16 g17 g105 g106 g107
      · have hX : zh (zE p false m j) = .agg [I p.sheets, .sl false (List.map zm p.marks ++ [.agg [I m.sheet, I m.axis, I m.tru, I m.seen, I m.err]]) 5 none, .sl false (List.map zj p.joins) 7 none] := by simp [zE, zm, zj, zs_true, zQ, a1, a2, b1, b2]
        rw [hX] at h30
        exact S5mccx p m j s t ax sp r l h _ hwf hk hl hh hm1 hj1 hret hnor h20 (q58c p a1 a2 hm1) (q59c_9 p b1 b2 hj1) h30 tms g3 g4 g5 g6 g9 g10 g11 g16 g17 g105 g106 g107
      · have hX : zh (zE p true m j) = .agg [I p.sheets, .sl false (List.map zm p.marks) 5 none, .sl false (List.map zj p.joins ++ [.agg [I j.a, I j.b, I j.axis, I j.seenA, I j.errA, I j.seenB, I j.errB]]) 7 none] := by simp [zE, zm, zj, zs_true, zQ, a1, a2, b1, b2]
        rw [hX] at h30
        exact S5jccx p m j s t ax sp r l h _ hwf hk hl hh hm1 hj1 hret hnor h20 (q58c p a1 a2 hm1) (q59c_9 p b1 b2 hj1) h30 tms g3 g4 g5 g6 g9 g10 g11 g16 g17 g105 g106 g107
    | true =>
      simp only [Bool.and_eq_true] at hpm
      obtain ⟨hom, hpm⟩ := hpm
      rw [hom, hpm] at h30
      simp only [if_true] at h30
      obtain ⟨mk, mk2⟩ := one _ hsub hom hpm ax hax
      obtain ⟨mk0, -⟩ := one _ hsub hom hpm 0 rfl
      have hcl := poss_none hp hax
      have hcl' := poss_none hpm hax
      obtain ⟨i, rfl, hi, -⟩ := sheet_nat hs
      obtain ⟨i2, rfl, hi2, -⟩ := sheet_nat ht
      have hsh := hsub.1
      have h20m := t20 _ (i : Int) ax hwf'
      have h19 := t19 p (i : Int) (i2 : Int) ax hwf
      have h19m := t19 _ (i : Int) (i2 : Int) ax hwf'
      have h38 := t38 p (i : Int) ax sp hwf
      have h38m := t38 _ (i : Int) ax sp hwf'
      have h40 := t40 p (i : Int) sp hwf
      have h40m := t40 _ (i : Int) sp hwf'
      rw [if_pos mk] at h20m h38m
      rw [if_pos hk] at h38
      rw [if_pos hk2] at h19
      rw [if_pos mk2] at h19m
      rw [if_pos hk0] at h40
      rw [if_pos mk0] at h40m
      rw [hsp] at h38 h38m h40 h40m
      simp only [if_true, Dsp] at h38 h38m h40 h40m
      have bi : (i : Int) < (zE p b m j).sheets := by omega
      have bi2 : (i2 : Int) < (zE p b m j).sheets := by omega
      have h51a := t51 (loF (zE p b m j) i ax) (loF p i ax)
      have h51b := t51 (hiF (zE p b m j) i ax) (hiF p i ax)
      have h51c := t51 (betwF (zE p b m j) i i2 ax) (betwF p i i2 ax)
      have gl := ratio_good (lo_good hok hcl (i := i) (by omega))
      have gh := ratio_good (hi_good hok hcl (i := i) (by omega))
      have gl' := ratio_good (lo_good hom hcl' (i := i) bi)
      have gh' := ratio_good (hi_good hom hcl' (i := i) bi)
      have gb := betw_ratio hok hcl (i := i) (j := i2) (by omega) (by omega)
      have gb' := betw_ratio hom hcl' (i := i) (j := i2) bi bi2
      have d1 : decide (orderF (loF (zE p b m j) i ax) (loF p i ax) < 0) = false := decide_eq_false (order_ge gl' gl (lo_mono hsub hom bi))
      have d2 : decide (orderF (hiF (zE p b m j) i ax) (hiF p i ax) > 0) = false := by
        have := (order_le gh' gh).2 (hi_mono hsub hom bi)
        exact decide_eq_false (by omega)
      have d3 : decide (orderF (betwF (zE p b m j) i i2 ax) (betwF p i i2 ax) > 0) = false := by
        have := (order_le gb' gb).2 (betw_mono hsub hom bi bi2)
        exact decide_eq_false (by omega)
      have hspo := hsp
      simp only [spanOK, Bool.and_eq_true, decide_eq_true_eq] at hspo
      have hc0 := poss_none hpm (ax := 0) rfl
      have hc1 := poss_none hpm (ax := 1) rfl
      have m1 := len_mono hsub hom hcl' bi (x := sp) (y := sp) (by omega) (Int.le_refl _) (by omega) (Int.le_refl _)
      have m2 := len_mono hsub hom hc0 bi (x := sp) (y := sp) (by omega) (Int.le_refl _) (by omega) (Int.le_refl _)
      have m3 := len_mono hsub hom hc1 bi m2.2.2.1 m2.1 m2.2.2.2 m2.2.1
      have h60a := t60 (lenF (zE p b m j) i ax sp) (lenF p i ax sp)
      have h60b := t60 (lenF (zE p b m j) i 1 (lenF (zE p b m j) i 0 sp)) (lenF p i 1 (lenF p i 0 sp))
      rw [decide_eq_true m1.1, decide_eq_true m1.2.1] at h60a
      rw [decide_eq_true m3.1, decide_eq_true m3.2.1] at h60b
      simp only [encS, Bool.and_self] at h60a h60b
      rw [← hl] at h51a d1
      rw [← hh] at h51b d2
      clear gl gh gl' gh' gb gb' m1 m2 m3 hspo hc0 hc1 hcl hcl'
      rcases nil_cases hwf.1 with ⟨a1, a2⟩ | ⟨a1, a2⟩ | ⟨a1, a2⟩ <;> rcases nil_cases hwf.2.1 with ⟨b1, b2⟩ | ⟨b1, b2⟩ | ⟨b1, b2⟩ <;> cases b
      · have hX : zh (zE p false m j) = .agg [I p.sheets, .sl false [.agg [I m.sheet, I m.axis, I m.tru, I m.seen, I m.err]] 5 none, .sl true [] 0 none] := by simp [zE, zm, zj, zs_true, zQ, a1, a2, b1, b2]
        rw [hX] at h30 h20m h19m h38m h40m
        exact S5mnny p m j _ _ ax sp r l h _ _ _ _ _ _ _ _ _ _ _ hwf hk hl hh hm1 hj1 hret hnor h20 (q58n p a1 a2) (q59n_7 p b1 b2) h30 h20m h19 h19m h51a h51b h51c d1 d2 d3 h38 h38m h40 h40m h60a h60b tms g3 g4 g5 g6 g9 g10 g11 g16 g17 g105 g106 g107
      · have hX : zh (zE p true m j) = .agg [I p.sheets, .sl true [] 0 none, .sl false [.agg [I j.a, I j.b, I j.axis, I j.seenA, I j.errA, I j.seenB, I j.errB]] 7 none] := by simp [zE, zm, zj, zs_true, zQ, a1, a2, b1, b2]
        rw [hX] at h30 h20m h19m h38m h40m
        exact S5jnny p m j _ _ ax sp r l h _ _ _ _ _ _ _ _ _ _ _ hwf hk hl hh hm1 hj1 hret hnor h20 (q58n p a1 a2) (q59n_7 p b1 b2) h30 h20m h19 h19m h51a h51b h51c d1 d2 d3 h38 h38m h40 h40m h60a h60b tms g3 g4 g5 g6 g9 g10 g11 g16 g17 g105 g106 g107
      · have hX : zh (zE p false m j) = .agg [I p.sheets, .sl false [.agg [I m.sheet, I m.axis, I m.tru, I m.seen, I m.err]] 5 none, .sl false [] 7 none] := by simp [zE, zm, zj, zs_true, zQ, a1, a2, b1, b2]
        rw [hX] at h30 h20m h19m h38m h40m
        exact S5mney p m j _ _ ax sp r l h _ _ _ _ _ _ _ _ _ _ _ hwf hk hl hh hm1 hj1 hret hnor h20 (q58n p a1 a2) (q59e_7 p b1 b2) h30 h20m h19 h19m h51a h51b h51c d1 d2 d3 h38 h38m h40 h40m h60a h60b tms g3 g4 g5 g6 g9 g10 g11 g16 g17 g105 g106 g107
      · have hX : zh (zE p true m j) = .agg [I p.sheets, .sl true [] 0 none, .sl false [.agg [I j.a, I j.b, I j.axis, I j.seenA, I j.errA, I j.seenB, I j.errB]] 7 none] := by simp [zE, zm, zj, zs_true, zQ, a1, a2, b1, b2]
        rw [hX] at h30 h20m h19m h38m h40m
        exact S5jney p m j _ _ ax sp r l h _ _ _ _ _ _ _ _ _ _ _ hwf hk hl hh hm1 hj1 hret hnor h20 (q58n p a1 a2) (q59e_7 p b1 b2) h30 h20m h19 h19m h51a h51b h51c d1 d2 d3 h38 h38m h40 h40m h60a h60b tms g3 g4 g5 g6 g9 g10 g11 g16 g17 g105 g106 g107
      · have hX : zh (zE p false m j) = .agg [I p.sheets, .sl false [.agg [I m.sheet, I m.axis, I m.tru, I m.seen, I m.err]] 5 none, .sl false (List.map zj p.joins) 7 none] := by simp [zE, zm, zj, zs_true, zQ, a1, a2, b1, b2]
        rw [hX] at h30 h20m h19m h38m h40m
        exact S5mncy p m j _ _ ax sp r l h _ _ _ _ _ _ _ _ _ _ _ hwf hk hl hh hm1 hj1 hret hnor h20 (q58n p a1 a2) (q59c_7 p b1 b2 hj1) h30 h20m h19 h19m h51a h51b h51c d1 d2 d3 h38 h38m h40 h40m h60a h60b tms g3 g4 g5 g6 g9 g10 g11 g16 g17 g105 g106 g107
      · have hX : zh (zE p true m j) = .agg [I p.sheets, .sl true [] 0 none, .sl false (List.map zj p.joins ++ [.agg [I j.a, I j.b, I j.axis, I j.seenA, I j.errA, I j.seenB, I j.errB]]) 7 none] := by simp [zE, zm, zj, zs_true, zQ, a1, a2, b1, b2]
        rw [hX] at h30 h20m h19m h38m h40m
        exact S5jncy p m j _ _ ax sp r l h _ _ _ _ _ _ _ _ _ _ _ hwf hk hl hh hm1 hj1 hret hnor h20 (q58n p a1 a2) (q59c_7 p b1 b2 hj1) h30 h20m h19 h19m h51a h51b h51c d1 d2 d3 h38 h38m h40 h40m h60a h60b tms g3 g4 g5 g6 g9 g10 g11 g16 g17 g105 g106 g107
      · have hX : zh (zE p false m j) = .agg [I p.sheets, .sl false [.agg [I m.sheet, I m.axis, I m.tru, I m.seen, I m.err]] 5 none, .sl true [] 0 none] := by simp [zE, zm, zj, zs_true, zQ, a1, a2, b1, b2]
        rw [hX] at h30 h20m h19m h38m h40m
        exact S5meny p m j _ _ ax sp r l h _ _ _ _ _ _ _ _ _ _ _ hwf hk hl hh hm1 hj1 hret hnor h20 (q58e p a1 a2) (q59n_8 p b1 b2) h30 h20m h19 h19m h51a h51b h51c d1 d2 d3 h38 h38m h40 h40m h60a h60b tms g3 g4 g5 g6 g9 g10 g11 g16 g17 g105 g106 g107
      · have hX : zh (zE p true m j) = .agg [I p.sheets, .sl false [] 5 none, .sl false [.agg [I j.a, I j.b, I j.axis, I j.seenA, I j.errA, I j.seenB, I j.errB]] 7 none] := by simp [zE, zm, zj, zs_true, zQ, a1, a2, b1, b2]
        rw [hX] at h30 h20m h19m h38m h40m
        exact S5jeny p m j _ _ ax sp r l h _ _ _ _ _ _ _ _ _ _ _ hwf hk hl hh hm1 hj1 hret hnor h20 (q58e p a1 a2) (q59n_8 p b1 b2) h30 h20m h19 h19m h51a h51b h51c d1 d2 d3 h38 h38m h40 h40m h60a h60b tms g3 g4 g5 g6 g9 g10 g11 g16 g17 g105 g106 g107
      · have hX : zh (zE p false m j) = .agg [I p.sheets, .sl false [.agg [I m.sheet, I m.axis, I m.tru, I m.seen, I m.err]] 5 none, .sl false [] 7 none] := by simp [zE, zm, zj, zs_true, zQ, a1, a2, b1, b2]
        rw [hX] at h30 h20m h19m h38m h40m
        exact S5meey p m j _ _ ax sp r l h _ _ _ _ _ _ _ _ _ _ _ hwf hk hl hh hm1 hj1 hret hnor h20 (q58e p a1 a2) (q59e_8 p b1 b2) h30 h20m h19 h19m h51a h51b h51c d1 d2 d3 h38 h38m h40 h40m h60a h60b tms g3 g4 g5 g6 g9 g10 g11 g16 g17 g105 g106 g107
      · have hX : zh (zE p true m j) = .agg [I p.sheets, .sl false [] 5 none, .sl false [.agg [I j.a, I j.b, I j.axis, I j.seenA, I j.errA, I j.seenB, I j.errB]] 7 none] := by simp [zE, zm, zj, zs_true, zQ, a1, a2, b1, b2]
        rw [hX] at h30 h20m h19m h38m h40m
        exact S5jeey p m j _ _ ax sp r l h _ _ _ _ _ _ _ _ _ _ _ hwf hk hl hh hm1 hj1 hret hnor h20 (q58e p a1 a2) (q59e_8 p b1 b2) h30 h20m h19 h19m h51a h51b h51c d1 d2 d3 h38 h38m h40 h40m h60a h60b tms g3 g4 g5 g6 g9 g10 g11 g16 g17 g105 g106 g107
      · have hX : zh (zE p false m j) = .agg [I p.sheets, .sl false [.agg [I m.sheet, I m.axis, I m.tru, I m.seen, I m.err]] 5 none, .sl false (List.map zj p.joins) 7 none] := by simp [zE, zm, zj, zs_true, zQ, a1, a2, b1, b2]
        rw [hX] at h30 h20m h19m h38m h40m
        exact S5mecy p m j _ _ ax sp r l h _ _ _ _ _ _ _ _ _ _ _ hwf hk hl hh hm1 hj1 hret hnor h20 (q58e p a1 a2) (q59c_8 p b1 b2 hj1) h30 h20m h19 h19m h51a h51b h51c d1 d2 d3 h38 h38m h40 h40m h60a h60b tms g3 g4 g5 g6 g9 g10 g11 g16 g17 g105 g106 g107
      · have hX : zh (zE p true m j) = .agg [I p.sheets, .sl false [] 5 none, .sl false (List.map zj p.joins ++ [.agg [I j.a, I j.b, I j.axis, I j.seenA, I j.errA, I j.seenB, I j.errB]]) 7 none] := by simp [zE, zm, zj, zs_true, zQ, a1, a2, b1, b2]
        rw [hX] at h30 h20m h19m h38m h40m
        exact S5jecy p m j _ _ ax sp r l h _ _ _ _ _ _ _ _ _ _ _ hwf hk hl hh hm1 hj1 hret hnor h20 (q58e p a1 a2) (q59c_8 p b1 b2 hj1) h30 h20m h19 h19m h51a h51b h51c d1 d2 d3 h38 h38m h40 h40m h60a h60b tms g3 g4 g5 g6 g9 g10 g11 g16 g17 g105 g106 g107
      · have hX : zh (zE p false m j) = .agg [I p.sheets, .sl false (List.map zm p.marks ++ [.agg [I m.sheet, I m.axis, I m.tru, I m.seen, I m.err]]) 5 none, .sl true [] 0 none] := by simp [zE, zm, zj, zs_true, zQ, a1, a2, b1, b2]
        rw [hX] at h30 h20m h19m h38m h40m
        exact S5mcny p m j _ _ ax sp r l h _ _ _ _ _ _ _ _ _ _ _ hwf hk hl hh hm1 hj1 hret hnor h20 (q58c p a1 a2 hm1) (q59n_9 p b1 b2) h30 h20m h19 h19m h51a h51b h51c d1 d2 d3 h38 h38m h40 h40m h60a h60b tms g3 g4 g5 g6 g9 g10 g11 g16 g17 g105 g106 g107
      · have hX : zh (zE p true m j) = .agg [I p.sheets, .sl false (List.map zm p.marks) 5 none, .sl false [.agg [I j.a, I j.b, I j.axis, I j.seenA, I j.errA, I j.seenB, I j.errB]] 7 none] := by simp [zE, zm, zj, zs_true, zQ, a1, a2, b1, b2]
        rw [hX] at h30 h20m h19m h38m h40m
        exact S5jcny p m j _ _ ax sp r l h _ _ _ _ _ _ _ _ _ _ _ hwf hk hl hh hm1 hj1 hret hnor h20 (q58c p a1 a2 hm1) (q59n_9 p b1 b2) h30 h20m h19 h19m h51a h51b h51c d1 d2 d3 h38 h38m h40 h40m h60a h60b tms g3 g4 g5 g6 g9 g10 g11 g16 g17 g105 g106 g107
      · have hX : zh (zE p false m j) = .agg [I p.sheets, .sl false (List.map zm p.marks ++ [.agg [I m.sheet, I m.axis, I m.tru, I m.seen, I m.err]]) 5 none, .sl false [] 7 none] := by simp [zE, zm, zj, zs_true, zQ, a1, a2, b1, b2]
        rw [hX] at h30 h20m h19m h38m h40m
        exact S5mcey p m j _ _ ax sp r l h _ _ _ _ _ _ _ _ _ _ _ hwf hk hl hh hm1 hj1 hret hnor h20 (q58c p a1 a2 hm1) (q59e_9 p b1 b2) h30 h20m h19 h19m h51a h51b h51c d1 d2 d3 h38 h38m h40 h40m h60a h60b tms g3 g4 g5 g6 g9 g10 g11 g16 g17 g105 g106 g107
      · have hX : zh (zE p true m j) = .agg [I p.sheets, .sl false (List.map zm p.marks) 5 none, .sl false [.agg [I j.a, I j.b, I j.axis, I j.seenA, I j.errA, I j.seenB, I j.errB]] 7 none] := by simp [zE, zm, zj, zs_true, zQ, a1, a2, b1, b2]
        rw [hX] at h30 h20m h19m h38m h40m
        exact S5jcey p m j _ _ ax sp r l h _ _ _ _ _ _ _ _ _ _ _ hwf hk hl hh hm1 hj1 hret hnor h20 (q58c p a1 a2 hm1) (q59e_9 p b1 b2) h30 h20m h19 h19m h51a h51b h51c d1 d2 d3 h38 h38m h40 h40m h60a h60b tms g3 g4 g5 g6 g9 g10 g11 g16 g17 g105 g106 g107
      · have hX : zh (zE p false m j) = .agg [I p.sheets, .sl false (List.map zm p.marks ++ [.agg [I m.sheet, I m.axis, I m.tru, I m.seen, I m.err]]) 5 none, .sl false (List.map zj p.joins) 7 none] := by simp [zE, zm, zj, zs_true, zQ, a1, a2, b1, b2]
        rw [hX] at h30 h20m h19m h38m h40m
        exact S5mccy p m j _ _ ax sp r l h _ _ _ _ _ _ _ _ _ _ _ hwf hk hl hh hm1 hj1 hret hnor h20 (q58c p a1 a2 hm1) (q59c_9 p b1 b2 hj1) h30 h20m h19 h19m h51a h51b h51c d1 d2 d3 h38 h38m h40 h40m h60a h60b tms g3 g4 g5 g6 g9 g10 g11 g16 g17 g105 g106 g107
      · have hX : zh (zE p true m j) = .agg [I p.sheets, .sl false (List.map zm p.marks) 5 none, .sl false (List.map zj p.joins ++ [.agg [I j.a, I j.b, I j.axis, I j.seenA, I j.errA, I j.seenB, I j.errB]]) 7 none] := by simp [zE, zm, zj, zs_true, zQ, a1, a2, b1, b2]
        rw [hX] at h30 h20m h19m h38m h40m
        exact S5jccy p m j _ _ ax sp r l h _ _ _ _ _ _ _ _ _ _ _ hwf hk hl hh hm1 hj1 hret hnor h20 (q58c p a1 a2 hm1) (q59c_9 p b1 b2 hj1) h30 h20m h19 h19m h51a h51b h51c d1 d2 d3 h38 h38m h40 h40m h60a h60b tms g3 g4 g5 g6 g9 g10 g11 g16 g17 g105 g106 g107

end Go.VS
namespace Go.VS
open Go Go.Proofs
set_option maxHeartbeats 0
set_option linter.unusedSimpArgs false

set_option maxRecDepth 10000
theorem or_pick {x y : Bool} : (if x = true then D.val (.bool true) else D.val (.bool y)) = D.val (.bool (x || y)) := by cases x <;> rfl
theorem t13 (p : Paper) (m : Mark) (j : Join) (s t ax : Int) (sp : Span) (r : Reason)  (b : Bool) (hwf : p.wf) : (lim cfg).pure 13 [zh p, .agg [I m.sheet, I m.axis, I m.tru, I m.seen, I m.err], .agg [I j.a, I j.b, I j.axis, I j.seenA, I j.errA, I j.seenB, I j.errB], B b, I s, I t, I ax, .agg [I sp.lo, I sp.hi], .agg [B r.join, I r.at_, B r.back]] = some (B true) := by
  have h15 := t15 p hwf
  have hlm := len_if (f := zm) hwf.1
  have hlj := len_if (f := zj) hwf.2.1
  refine zp (zk 13) cfn13 rfl (n := 305) rfl ?_
  generalize hF : finP cfg Tryd.f13 = F
  simp only [bW, if_true, Nat.reduceEqDiff, if_false, zi]
  have hret : ∀ st, get st.tmps 18 = B true → F .ret st = some (B true) := by
    intro st h
    subst hF
    simp only [go_sem, Nat.reduceEqDiff, bP, Nat.reduceAdd, Nat.reduceLeDiff, List.length_map, Tryd.f13, h]
  have hnor : ∀ st, get st.tmps 18 = B true → F .normal st = some (B true) := by
    intro st h
    subst hF
    simp only [go_sem, Nat.reduceEqDiff, bP, Nat.reduceAdd, Nat.reduceLeDiff, List.length_map, Tryd.f13, h]
  repeat' first | (intro hb; first | cases hb | skip) | ((first | apply z6 | apply zc); (· rfl); (· simp (disch := assumption) only [go_sem, Nat.reduceEqDiff, Nat.reduceAdd, bP, zd, Nat.reduceLeDiff, Nat.reduceLT, Nat.reduceMul, List.length_append, decide_eq_true_eq, z7, z0, Int.reduceToNat, Int.reduceLE, Int.reduceLT, Int.reduceBNe, Int.reduceBEq, t14, h15, hlm, hlj, or_pick]; rfl); (· simp only [go_sem, Nat.reduceLT, Nat.reduceEqDiff]; rfl); (· rfl); first | (apply zb; (· simp only [go_sem, Nat.reduceLT]; rfl); (· simp only [go_sem, Nat.reduceLT]; rfl)) | (apply zf; (· simp only [go_sem, Nat.reduceLT]; rfl))) | ((first | apply z9 | apply za); (· rfl); (· simp only [go_sem, Nat.reduceLT]; rfl)) | (apply z8; (· simp only [go_sem, Nat.reduceEqDiff])) | (apply z5; (· simp only [go_sem, Nat.reduceEqDiff])) | (apply ze; (· kernel_rfl); (· kernel_rfl)) | (simp only [bW, if_true, Nat.reduceEqDiff, if_false])
  all_goals first | exact hret _ rfl | skip
  · rename_i e1 e2 e3 e4 e5 e6 e7 e8 e9 e10 e11
    simp only [bne_eq_false_iff_eq, decide_eq_false_iff_not] at e1 e2 e3 e4 e5 e6 e7 e8 e9 e10 e11 hb
    have hok : zt p = true := check_zero.1 e1
    refine S5 p m j s t ax sp r b hwf hok (by simp [zA]; omega) (by simp [zA]; omega) (by simp [isAxis]; omega) (by simp [spanOK]; omega) hret hnor _ ?_ ?_ ?_ ?_ ?_ ?_ ?_ ?_ ?_ ?_ ?_ ?_ <;> rfl
end Go.VS
/-
  VS, part P: what arguments that read as data stand for; what a law's call leaves. (A text of this claim's own; nothing of it is trusted.)
-/
namespace Go.VS
open Go Go.RowKit Go.ChangeShapes Go.WideShapes

def memOf (w : World) : Mem := fun b o => w.cell? ⟨b, o, none⟩
theorem memOf_ok (w : World) : MOK (memOf w) w := fun _ _ _ h => h

/-- Which cells a value of a type may have. -/
def Sh (C : Cfg) : Nat → TypeId → List D → Prop
  | 0, _, _ => False
  | f + 1, t, ds => match C.ty t with
    | some ty => match ty.kind with
      | .int k => ∃ n, ds = [.val (.int k n)] ∧ k.min ≤ n ∧ n ≤ k.max
      | .bool => ∃ b, ds = [B b]
      | .str => ∃ s : ByteArray, ds = [.val (.string s)] ∧ s.size ≤ maxLen
      | .struct fs => ds.length = ty.size ∧ ∀ p ∈ fs, ∃ tf, C.ty p.1 = some tf ∧ Sh C f p.1 ((ds.drop p.2).take tf.size)
      | .arr n e => ds.length = ty.size ∧ ∃ te, C.ty e = some te ∧ ∀ i, i < n → Sh C f e ((ds.drop (i * te.size)).take te.size)
      | .slice e => ds = [.sl true [] 0 none] ∨ ∃ els te, C.ty e = some te ∧ ds = [.sl false els te.size none] ∧ els.length ≤ maxLen ∧
          ∀ d ∈ els, Sh C f e d.cells ∧ (te.isAgg = true → d = .agg d.cells) ∧ (te.isAgg = false → d.cells = [d])
      | _ => False
    | none => False
/-- Types without slices. -/
def flatT (C : Cfg) : Nat → TypeId → Bool
  | 0, _ => false
  | f + 1, t => match C.ty t with
    | some ty => match ty.kind with
      | .int _ => true
      | .bool => true
      | .str => true
      | .struct fs => fs.all fun p => flatT C f p.1
      | .arr _ e => flatT C f e
      | _ => false
    | none => false
/-- Types with slices whose elements have none. -/
def topT (C : Cfg) : Nat → TypeId → Bool
  | 0, _ => false
  | f + 1, t => match C.ty t with
    | some ty => match ty.kind with
      | .int _ => true
      | .bool => true
      | .str => true
      | .struct fs => fs.all fun p => topT C f p.1
      | .arr _ e => topT C f e
      | .slice e => flatT C f e
      | _ => false
    | none => false
theorem flat_top {C : Cfg} : ∀ {f : Nat} {t : TypeId}, flatT C f t = true → topT C f t = true
  | 0, _, h => by cases h
  | f + 1, t, h => by
    unfold flatT at h; unfold topT
    split at h
    · rename_i ty ht
      try rw [ht]
      try simp only []
      cases hk : ty.kind <;> rw [hk] at h <;> simp only [] at h ⊢ <;> (try (cases h; done))
      · exact flat_top h
      · simp only [List.all_eq_true] at h ⊢
        exact fun p hp => flat_top (h p hp)
    · cases h

def plainCells (cs : List Value) : Prop := ∀ v ∈ cs, ∀ a l c, v = .slice (some a) l c → a.spot = none

theorem cellsOf_of {P : Program} {t : TypeId} {ty : Ty} (h : tyOf P t = some ty) : P.cellsOf t = ty.size := by
  obtain ⟨i, d, hi, hd, hz, hk, hs, hb⟩ := tyOf_spec h
  simp [Program.cellsOf, hi, hs]

theorem list_parts {α : Type} (l : List α) (n k : Nat) (h : l.length = n * k) : l = (List.range n).flatMap fun i => (l.drop (i * k)).take k := by
  induction n generalizing l with
  | zero => simp at h ⊢; exact h
  | succ n ih =>
    rw [List.range_succ_eq_map, List.flatMap_cons]
    simp only [Nat.zero_mul, List.drop_zero, List.flatMap_map]
    have hl : (l.drop k).length = n * k := by rw [List.length_drop, h, Nat.add_mul]; omega
    have e := ih (l.drop k) hl
    have : (List.range n).flatMap (fun i => ((l.drop k).drop (i * k)).take k) = (List.range n).flatMap (fun i => (l.drop ((i + 1) * k)).take k) := by
      congr 1; funext i; rw [List.drop_drop]; congr 2; rw [Nat.add_mul]; omega
    rw [this] at e
    calc l = l.take k ++ l.drop k := (List.take_append_drop k l).symm
      _ = _ := by rw [← e]

/-- Parts that stand for parts, put together. -/
theorem zC.join {M : Mem} {Q : Nat → List D → Prop} : ∀ (n : Nat) (F : Nat → List Value), (∀ i, i < n → ∃ ds, zC M noLoc ds (F i) ∧ Q i ds) →
    ∃ G : Nat → List D, zC M noLoc ((List.range n).flatMap G) ((List.range n).flatMap F) ∧ ∀ i, i < n → zC M noLoc (G i) (F i) ∧ Q i (G i) := by
  intro n F h
  obtain ⟨G, hG⟩ := Go.Deep.choose_lt (α := List D) (p := fun i ds => zC M noLoc ds (F i) ∧ Q i ds) h
  refine ⟨G, ?_, hG⟩
  have : ∀ l : List Nat, (∀ i ∈ l, i < n) → zC M noLoc (l.flatMap G) (l.flatMap F) := by
    intro l
    induction l with
    | nil => intro _; simp [zC]
    | cons a l ih =>
      intro hl
      simp only [List.flatMap_cons]
      exact zC.append (hG a (hl a (by simp))).1 (ih fun i hi => hl i (List.mem_cons_of_mem _ hi))
  exact this _ fun i hi => by simpa using hi
theorem flatMap_part {α : Type} (n : Nat) (G : Nat → List α) (k : Nat) (h : ∀ i, i < n → (G i).length = k) (i : Nat) (hi : i < n) : (((List.range n).flatMap G).drop (i * k)).take k = G i := by
  induction n generalizing i G with
  | zero => omega
  | succ n ih =>
    rw [List.range_succ_eq_map, List.flatMap_cons, List.flatMap_map]
    have h0 := h 0 (by omega)
    cases i with
    | zero => simp [← h0]
    | succ i =>
      rw [List.drop_append, List.drop_eq_nil_of_le (by rw [h0, Nat.add_mul]; omega), List.nil_append, h0]
      have : (i + 1) * k - k = i * k := by rw [Nat.add_mul]; omega
      rw [this]
      exact ih (fun i => G (i + 1)) (fun i hi => h (i + 1) (by omega)) i (by omega)

/-- The fields of a struct cover its cells, one behind the other. -/
def rowed : Nat → List (Nat × Nat) → Option Nat
  | o, [] => some o
  | o, (off, size) :: r => if off = o then rowed (o + size) r else none
def rowedT (C : Cfg) : Nat → TypeId → Bool
  | 0, _ => false
  | f + 1, t => match C.ty t with
    | some ty => match ty.kind with
      | .int _ => ty.size == 1
      | .bool => ty.size == 1
      | .str => ty.size == 1
      | .slice e => ty.size == 1 && (match C.ty e with | some te => rowedT C f e && decide (0 < te.size) | none => false)
      | .struct fs => (fs.all fun p => rowedT C f p.1) && (match placesOf C fs with | some pl => rowed 0 pl == some ty.size | none => false)
      | .arr n e => rowedT C f e && (match C.ty e with | some te => ty.size == n * te.size | none => false)
      | _ => false
    | none => false

theorem rowed_parts {M : Mem} {cs : List Value} : ∀ (l : List (Nat × Nat)) (o n : Nat), rowed o l = some n → n ≤ cs.length → ∀ {Q : Nat → List D → Prop},
    (∀ i p, l[i]? = some p → ∃ ds, zC M noLoc ds ((cs.drop p.1).take p.2) ∧ Q i ds) →
    ∃ ds, zC M noLoc ds ((cs.drop o).take (n - o)) ∧ ds.length = n - o ∧ o ≤ n ∧ ∀ i p, l[i]? = some p → o ≤ p.1 ∧ Q i ((ds.drop (p.1 - o)).take p.2)
  | [], o, n, h, hn, Q, _ => by
    simp only [rowed, Option.some.injEq] at h; subst h
    exact ⟨[], by simp [zC], by simp, Nat.le_refl _, by simp⟩
  | (off, size) :: r, o, n, h, hn, Q, hq => by
    simp only [rowed] at h
    split at h
    · rename_i ho; subst ho
      obtain ⟨d0, h1, h2⟩ := hq 0 (off, size) rfl
      obtain ⟨ds, k1, k2, k3, k4⟩ := rowed_parts r (off + size) n h hn (Q := fun i => Q (i + 1)) (fun i p hp => hq (i + 1) p (by simpa using hp))
      have hl : d0.length = size := by rw [← h1.length, List.length_take, List.length_drop]; omega
      refine ⟨d0 ++ ds, ?_, by simp [hl, k2]; omega, by omega, fun i p hp => ?_⟩
      · have e : (cs.drop off).take (n - off) = (cs.drop off).take size ++ (cs.drop (off + size)).take (n - (off + size)) := by
          rw [show n - off = size + (n - (off + size)) by omega, List.take_add, List.drop_drop]
        rw [e]; exact h1.append k1
      · cases i with
        | zero => simp at hp; subst hp; simp [← hl]; simpa [hl] using h2
        | succ i =>
          obtain ⟨q1, q2⟩ := k4 i p (by simpa using hp)
          refine ⟨by omega, ?_⟩
          rw [List.drop_append, List.drop_eq_nil_of_le (by omega), List.nil_append, hl, show p.1 - off - size = p.1 - (off + size) by omega]
          exact q2
    · cases h

section
variable {H : Type} {enc : TypeId × Value → H} {C : Cfg} {w : World} {base : Nat} {sp : Nat → Bool} {held : Bool}

theorem placesOf_get : ∀ {fs : List (TypeId × Nat)} {pl : List (Nat × Nat)}, placesOf C fs = some pl → fs.length = pl.length ∧ ∀ (i : Nat) (p : Nat × Nat), pl[i]? = some p → ∃ t ty, fs[i]? = some (t, p.1) ∧ C.ty t = some ty ∧ ty.size = p.2
  | [], pl, h => by simp [placesOf] at h; subst h; simp
  | (t, off) :: r, pl, h => by
    simp only [placesOf] at h
    split at h
    · rename_i ty l h1 h2
      cases h
      obtain ⟨k1, k2⟩ := placesOf_get h2
      refine ⟨by simp [k1], fun i p hp => ?_⟩
      cases i with
      | zero => simp at hp; subst hp; exact ⟨t, ty, by simp, h1, rfl⟩
      | succ i => obtain ⟨t', ty', a, b, c⟩ := k2 i p (by simpa using hp); exact ⟨t', ty', by simpa using a, b, c⟩
    · cases h

theorem fieldsOf_get {fs : Array Field} {i : Nat} {p : TypeId × Nat} (h : (fs.toList.map fun f => (f.type, f.offset))[i]? = some p) : ∃ f : Field, fs[i]? = some f ∧ f.type = p.1 ∧ f.offset = p.2 := by
  rw [List.getElem?_map] at h
  cases hf : fs.toList[i]? with
  | none => rw [hf] at h; cases h
  | some f => rw [hf] at h; cases h; exact ⟨f, by simpa using hf, rfl, rfl⟩

/-- What reads as data has a deep value. -/
theorem trod_rep (hC : ∀ t ty, C.ty t = some ty → tyOf C.P t = some ty) : ∀ (f n : Nat) (t : TypeId) (cs : List Value) (x : DataW H × List MemPlace),
    DataW.trod enc C.P w base sp held n t cs = some x → topT C f t = true → rowedT C f t = true → (plainCells cs ∨ flatT C f t = true) →
    ∃ ds, zC (memOf w) noLoc ds cs ∧ Sh C f t ds
  | 0, _, _, _, _, _, h, _, _ => by cases h
  | f + 1, n, t, cs, x, h, ht, hw, hp => by
    unfold topT at ht
    split at ht
    case h_2 => cases ht
    rename_i ty hty
    have hto := hC _ _ hty
    obtain ⟨i, d, hi, hd, hz, hk, hs, hb⟩ := tyOf_spec hto
    unfold rowedT at hw
    rw [hty] at hw; simp only [] at hw
    unfold Sh
    rw [hty]; simp only []
    have hp' : plainCells cs ∨ (match ty.kind with | .int _ => true | .bool => true | .str => true | .struct fs => fs.all (fun p => flatT C f p.1) | .arr _ e => flatT C f e | _ => false) = true := by
      rcases hp with hp | hp
      · exact .inl hp
      · unfold flatT at hp; rw [hty] at hp; exact .inr hp
    clear hp
    cases d <;> simp only [tkOf] at hk <;> rw [hk] at ht hw hp' ⊢ <;> simp only [] at ht hw hp' ⊢ <;> (try (cases ht; done))
    case bool =>
      obtain ⟨b, rfl, _⟩ := DataW.trod_bool hd h
      exact ⟨[B b], by simp [zC, Rep], b, rfl⟩
    case int k =>
      obtain ⟨m, rfl, _, hwf⟩ := DataW.trod_int hd h
      simp only [Lit.wf, Bool.and_eq_true, decide_eq_true_eq] at hwf
      exact ⟨[.val (.int k m)], by simp [zC, Rep], m, rfl, hwf⟩
    case string =>
      obtain ⟨s, rfl, _, hsz⟩ := DataW.trod_string hd h
      exact ⟨[.val (.string s)], by simp [zC, Rep], s, rfl, hsz⟩
    case struct fs =>
      obtain ⟨xs, m, rfl, _, hl, hxl, hf⟩ := DataW.trod_struct hd h
      rw [cellsOf_of hto] at hl
      simp only [Bool.and_eq_true] at hw
      obtain ⟨hw1, hw2⟩ := hw
      split at hw2
      case h_2 => cases hw2
      rename_i pl hpl
      have hrow : rowed 0 pl = some ty.size := by simpa using hw2
      obtain ⟨hlen, hget⟩ := placesOf_get hpl
      obtain ⟨ds, k1, k2, _, k4⟩ := rowed_parts (M := memOf w) (cs := cs) pl 0 ty.size hrow (by omega) (Q := fun i ds => ∃ p, (fs.toList.map fun f => (f.type, f.offset))[i]? = some p ∧ Sh C f p.1 ds) (fun i p hp0 => by
        obtain ⟨t', ty', a, b, c⟩ := hget i p hp0
        obtain ⟨fd, e1, e2, e3⟩ := fieldsOf_get a
        simp only [] at e2 e3
        have hmem := List.mem_of_getElem? a
        simp only [List.all_eq_true] at ht hw1
        have hx := hf i fd e1
        have hil : i < xs.length := by rw [hxl]; exact (Array.getElem?_eq_some_iff.1 e1).1
        rw [List.getElem?_eq_getElem hil, e2, e3, cellsOf_of (hC _ _ b), c] at hx
        obtain ⟨ds, q1, q2⟩ := trod_rep hC f m _ _ _ hx (ht _ hmem) (hw1 _ hmem) (by
          rcases hp' with hp | hp
          · exact .inl fun v hv => hp v (List.mem_of_mem_drop (List.mem_of_mem_take hv))
          · simp only [List.all_eq_true] at hp; exact .inr (hp _ hmem))
        exact ⟨ds, q1, _, a, q2⟩)
      simp only [List.drop_zero, Nat.sub_zero] at k1 k2 k4
      rw [← hl, List.take_length] at k1
      refine ⟨ds, k1, k2, fun p hpm => ?_⟩
      obtain ⟨i, hi'⟩ := List.mem_iff_getElem?.1 hpm
      have hil : i < pl.length := by rw [← hlen]; exact (List.getElem?_eq_some_iff.1 hi').1
      obtain ⟨t', ty', a, b, c⟩ := hget i pl[i] (List.getElem?_eq_getElem hil)
      rw [hi'] at a; cases a
      obtain ⟨_, p', q1, q2⟩ := k4 i pl[i] (List.getElem?_eq_getElem hil)
      rw [hi'] at q1; cases q1
      exact ⟨ty', b, by rw [c]; exact q2⟩
    case array m e =>
      obtain ⟨xs, m', rfl, _, hl, hxl, hf⟩ := DataW.trod_array hd h
      rw [cellsOf_of hto] at hl
      simp only [Bool.and_eq_true] at hw
      obtain ⟨hw1, hw2⟩ := hw
      split at hw2
      case h_2 => cases hw2
      rename_i te hte
      have hsz : ty.size = m * te.size := by simpa using hw2
      have hce := cellsOf_of (hC _ _ hte)
      have hpart := list_parts cs m te.size (by rw [hl, hsz])
      obtain ⟨G, g1, g2⟩ := zC.join (M := memOf w) (Q := fun _ ds => Sh C f e ds) m (fun i => (cs.drop (i * te.size)).take te.size) (fun i hi => by
        have hx := hf i hi
        rw [List.getElem?_eq_getElem (by omega), hce] at hx
        exact trod_rep hC f m' _ _ _ hx ht hw1 (by
          rcases hp' with hp | hp
          · exact .inl fun v hv => hp v (List.mem_of_mem_drop (List.mem_of_mem_take hv))
          · exact .inr hp))
      rw [← hpart] at g1
      have hGl : ∀ i, i < m → (G i).length = te.size := by
        intro i hi
        rw [← (g2 i hi).1.length, List.length_take, List.length_drop, hl, hsz]
        have : (i + 1) * te.size ≤ m * te.size := Nat.mul_le_mul_right _ hi
        rw [Nat.add_mul] at this; omega
      refine ⟨_, g1, by rw [← g1.length]; exact hl, te, hte, fun i hi => ?_⟩
      rw [flatMap_part m G te.size hGl i hi]
      exact (g2 i hi).2
    case slice e =>
      simp only [Bool.and_eq_true] at hw
      obtain ⟨_, hw2⟩ := hw
      split at hw2
      case h_2 => cases hw2
      rename_i te hte
      simp only [Bool.and_eq_true, decide_eq_true_eq] at hw2
      obtain ⟨hw2, hpos⟩ := hw2
      have hce := cellsOf_of (hC _ _ hte)
      rcases Go.Deep.open_slice hd h with ⟨rfl, _⟩ | ⟨a, len, cap, m, n', Dd, Pl, rfl, hb, hl, hm, hmm, _, hx⟩
      · exact ⟨[.sl true [] 0 none], by simp [zC, Rep], .inl rfl⟩
      · have hlm : len ≤ m := by rw [hmm]; split <;> omega
        have hsp : a.spot = none := by
          rcases hp' with hp | hp
          · exact hp _ (by simp) a len cap rfl
          · cases hp
        obtain ⟨b, o, s⟩ := a
        simp only [] at hsp; subst hsp
        obtain ⟨G, hG⟩ := Go.Deep.choose_lt (α := D) (p := fun i d => (∃ u, Rep (memOf w) noLoc d u ∧ u.cells.size = te.size ∧ MemAt (memOf w) b (o + i * te.size) u.cells) ∧ Sh C f e d.cells ∧ (te.isAgg = true → d = .agg d.cells) ∧ (te.isAgg = false → d.cells = [d])) (n := len) (fun i hi => by
          obtain ⟨cs', c1, c2⟩ := hx i (by omega)
          obtain ⟨_, c3, c4⟩ := World.cells?_some c1
          obtain ⟨ds, q1, q2⟩ := trod_rep hC f n' e cs' _ c2 (flat_top ht) hw2 (.inr ht)
          rw [hce] at c3 c4
          have hM : MemAt (memOf w) b (o + i * te.size) cs'.toArray := by
            intro j u hu
            have hj : j < te.size := by
              have := (Array.getElem?_eq_some_iff.1 hu).1; simpa [c3] using this
            have := c4 j hj
            rw [addr_add, addr_add] at this
            unfold memOf
            rw [this]; simpa using hu
          cases hag : te.isAgg with
          | true =>
            refine ⟨.agg ds, ⟨.agg cs'.toArray, ?_, by simpa [Value.cells] using c3, hM⟩, q2, fun _ => rfl, fun h => by simp at h⟩
            simp only [Rep]; exact ⟨_, rfl, by simpa using q1⟩
          | false =>
            -- one cell
            obtain ⟨i2, d2, _, hd2, _, hk2, _, _⟩ := tyOf_spec (hC _ _ hte)
            have h1 : te.size = 1 ∧ ∃ d v, ds = [d] ∧ d.cells = [d] ∧ cs' = [v] ∧ v.cells = #[v] := by
              cases f with
              | zero => cases ht
              | succ f =>
                unfold flatT at ht; unfold rowedT at hw2; unfold Sh at q2
                rw [hte] at ht hw2 q2; simp only [] at ht hw2 q2
                cases d2 <;> simp only [tkOf] at hk2 <;> rw [hk2] at ht hw2 q2 <;> simp only [] at ht hw2 q2 <;> (try (cases ht; done))
                · obtain ⟨b', rfl⟩ := q2
                  simp only [zC, Rep] at q1
                  obtain ⟨v, r, rfl, rfl, rfl⟩ := q1
                  exact ⟨by simpa using hw2, _, _, rfl, rfl, rfl, rfl⟩
                · obtain ⟨z, rfl, _⟩ := q2
                  simp only [zC, Rep] at q1
                  obtain ⟨v, r, rfl, rfl, rfl⟩ := q1
                  exact ⟨by simpa using hw2, _, _, rfl, rfl, rfl, rfl⟩
                · obtain ⟨z, rfl, _⟩ := q2
                  simp only [zC, Rep] at q1
                  obtain ⟨v, r, rfl, rfl, rfl⟩ := q1
                  exact ⟨by simpa using hw2, _, _, rfl, rfl, rfl, rfl⟩
                · simp [Ty.isAgg, hk2] at hag
                · simp [Ty.isAgg, hk2] at hag
            obtain ⟨hsz, dd, v, rfl, hdc, rfl, hvc⟩ := h1
            simp only [zC] at q1
            obtain ⟨v', r, e1, q1, rfl⟩ := q1
            cases e1
            refine ⟨dd, ⟨v, q1, by rw [hvc, hsz]; rfl, by rw [hvc]; exact hM⟩, by rw [hdc]; exact q2, fun h => by simp at h, fun _ => hdc⟩)
        refine ⟨[.sl false ((List.range len).map G) te.size none], ?_, .inr ⟨_, te, hte, rfl, by simp; omega, fun d hd' => ?_⟩⟩
        · simp only [zC, Rep]
          refine ⟨_, [], rfl, ⟨by simp, fun _ => ⟨b, o, cap, by simp, by simpa using hl, hm, by simp, RepE.ofGet fun i d hd' => ?_⟩⟩, rfl⟩
          rw [List.getElem?_map] at hd'
          have hi' : i < len := by
            rcases Nat.lt_or_ge i len with h | h
            · exact h
            · rw [List.getElem?_eq_none (by simpa using h)] at hd'; cases hd'
          rw [List.getElem?_range hi'] at hd'; cases hd'
          exact (hG i hi').1
        · obtain ⟨i, hi', rfl⟩ := List.mem_map.1 hd'
          exact (hG i (by simpa using hi')).2

/-- An argument. -/
theorem plain_arg {P : Program} {r : Reach} {base : Nat} {t : TypeId} {v : Value} (h : Value.okWide P w r base t v) : plainCells v.cells.toList := by
  have key : ∀ u x, Cell.okWide P w r base u x → ∀ a l c, x = .slice (some a) l c → a.spot = none := by
    rintro u x hx a l c rfl
    unfold Cell.okWide at hx
    split at hx <;> try (rename_i h1 h2; cases h2; done)
    unfold Cell.ok at hx
    split at hx <;> try (rename_i h1 h2; cases h2; done)
    · rename_i h1 h2
      cases h2
      exact hx.2.2.2.1
    · cases hx
  unfold Value.okWide at h
  split at h
  · obtain ⟨cs, rfl, _, ts, _, _, hc⟩ := h
    intro x hx
    obtain ⟨i, hi⟩ := List.mem_iff_getElem?.1 hx
    obtain ⟨u, _, hu⟩ := hc i x (by simpa [Value.cells] using hi)
    exact key u x hu
  · obtain ⟨cs, rfl, _, ts, _, _, hc⟩ := h
    intro x hx
    obtain ⟨i, hi⟩ := List.mem_iff_getElem?.1 hx
    obtain ⟨u, _, hu⟩ := hc i x (by simpa [Value.cells] using hi)
    exact key u x hu
  · intro x hx a l c e
    have hv : x = v ∨ ∃ cs, v = .agg cs := by
      cases v <;> first | exact .inr ⟨_, rfl⟩ | (left; simpa [Value.cells] using hx)
    rcases hv with rfl | ⟨cs, rfl⟩
    · exact key t x h a l c e
    · exfalso
      unfold Cell.okWide at h
      split at h <;> try (rename_i h1 h2; cases h2; done)
      unfold Cell.ok at h
      split at h <;> first | (rename_i h1 h2; cases h2; done) | cases h
end
end Go.VS
/-
  VS, part P2: what a law's call leaves, as its row says it. (A text of this claim's own; nothing of it is trusted.)
-/
namespace Go.VS
open Go Go.RowKit Go.ChangeShapes Go.WideShapes

section
variable {H : Type} {enc : TypeId × Value → H} {P : Program}
theorem trodAll_carry {w w' : World} {base : Nat} {sp : Nat → Bool} {held : Bool} : ∀ {ts : List TypeId} {vs : List Value} {ds : List (DataW H)} {ps : List MemPlace}, DataW.TrodAll enc P w base sp held ts vs ds ps → (∀ p ∈ ps, w.sameAt w' p) → DataW.TrodAll enc P w' base sp held ts vs ds ps
  | [], [], [], _, h, _ => h
  | _ :: _, _ :: _, _ :: _, _, ⟨p, q, ⟨n, h1⟩, h2, e⟩, hs => ⟨p, q, ⟨n, DataW.trod_carry n _ _ _ h1 (fun x hx => hs x (by rw [e]; exact List.mem_append_left _ hx))⟩, trodAll_carry h2 (fun x hx => hs x (by rw [e]; exact List.mem_append_right _ hx)), e⟩
theorem sameAt_of {w w' : World} (h : ∀ b, b < w.heap.size → w'.heap[b]? = w.heap[b]?) : ∀ p : MemPlace, p.block < w.heap.size → w.sameAt w' p
  | .cell b off, hp => by
    show w'.cell? ⟨b, off, none⟩ = w.cell? ⟨b, off, none⟩
    unfold World.cell?
    rw [h b hp]
  | .map b, hp => h b hp
theorem post_same {f : Func} {s : ChangeSpec} {apart fresh handsOn again : Bool} {W W' : World} {args : Array Value} {v : Value} {ds gs : List (DataW H)} {before pa pv : List MemPlace}
    (hW : DataW.Whole enc P f.params.toList s.vars apart W args.toList ds gs before)
    (hres : ∀ (b : Nat) (sp : Nat → Bool) (hd : Bool), DataW.TrodAll enc P W' b sp hd f.resultTypes.toList (v.resultList f.resultTypes.size) (s.fn H (ds ++ gs)).results [])
    (hargs : ∀ sp : Nat → Bool, (∀ p ∈ before, sp p.block = true) → DataW.TrodAll enc P W' 0 sp true f.params.toList args.toList (s.fn H (ds ++ gs)).args pa)
    (hvars : ∀ sp : Nat → Bool, (∀ p ∈ before, sp p.block = true) → DataW.TrodVars enc P W' sp s.vars (s.fn H (ds ++ gs)).vars pv)
    (hps : before = pa ++ pv) (hk : W.keptBut W' (· ∈ before)) (hfz : ∀ p ∈ before, ∀ b off, p = .cell b off → W'.frozen? ⟨b, off, none⟩ = W.frozen? ⟨b, off, none⟩)
    (hok : ∀ (j : Nat) (t : TypeId) (r : Value), f.resultTypes[j]? = some t → (v.resultList f.resultTypes.size)[j]? = some r → Value.okWide P W' .any 0 t r) :
    s.post enc P f apart fresh handsOn again W args v W' := by
  have hold : ∀ p ∈ before, (fun b => decide (b < W.heap.size)) p.block = true := fun p hp => by simpa using hW.lt p hp
  refine ⟨ds, gs, before, [], pa, pv, hW, hres _ _ _, hargs _ hold, hvars _ hold, World.keptBut_mono (fun p hp => ⟨hp, ?_⟩) hk, fun _ => ?_⟩
  · rw [hps, List.mem_append] at hp
    exact Or.inr hp
  · obtain ⟨_, _, _, _, _, hz, hn⟩ := hW
    refine ⟨hok, _, _, ([] ++ pa) ++ pv, ⟨[] ++ pa, pv, trodAll_append (hargs _ (fun _ _ => rfl)) (hres _ _ _), hvars _ (fun _ _ => rfl), rfl, ?_, ?_⟩, ?_⟩
    · intro b off hp
      have hp' : MemPlace.cell b off ∈ before := by rw [hps]; simpa using hp
      rw [hfz _ hp' b off rfl]
      exact hz b off hp'
    · intro ha
      have := hn ha
      rw [hps] at this
      simpa using this
    · intro p hp _
      rw [hps]
      simpa using hp

theorem law_post {C : Cfg} (hC : CfgOK C) (hX : ExtOK C) (hl : laidOutB C.P = true) (hm : mapsRowed C.P = true) (hz : ∀ t e, t < C.P.types.size → C.P.underlying t = some (.slice e) → 0 < C.P.cellsOf e)
    {K : FuncId} {dsD : List D} (hpure : (lim C).pure K dsD = some (B true)) {W : World} {args : Array Value} (hrep : zC (memOf W) noLoc dsD args.toList) (hG : GlobOK C (memOf W))
    {f : Func} {s : ChangeSpec} {apart fresh handsOn again : Bool} {ds gs : List (DataW H)} {before : List MemPlace}
    (hW : DataW.Whole enc C.P f.params.toList s.vars apart W args.toList ds gs before) (hv : s.vars = [])
    (hfn : s.fn H ds = { results := [.lit (.bool true)], args := ds }) {tb : TypeId} (hres : f.resultTypes = #[tb]) (htb : C.P.underlying tb = some .bool)
    (hts : ∀ t ∈ f.params.toList, t < C.P.types.size) :
    Calls C.P K args W fun e W' => ∃ v, e = .returned v ∧ s.post enc C.P f apart fresh handsOn again W args v W' := by
  refine (lim_sound hC hX hpure (memOf W) W args (memOf_ok W) hG hrep).mono ?_
  rintro e W' ⟨v, M', rfl, k1, k2, k3, k4, k5, k6, k7, k8, k9⟩
  simp only [Rep] at k3; subst k3
  have hW' := hW
  obtain ⟨p, q, hA, hVars, rfl, hnf, hnd⟩ := hW'
  rw [hv] at hVars
  obtain ⟨rfl, rfl⟩ : gs = [] ∧ q = [] := by
    cases gs with
    | nil => exact ⟨rfl, hVars⟩
    | cons g gs => cases hVars
  have hlt := hW.lt
  refine ⟨_, rfl, post_same (pa := p) (pv := []) hW ?_ ?_ ?_ rfl ?_ ?_ ?_⟩
  · intro b sp hd
    rw [List.append_nil, hfn, hres]
    refine ⟨[], [], ⟨1, ?_⟩, rfl, rfl⟩
    simp [DataW.trod, htb, Value.cells]
  · intro sp hsp
    rw [List.append_nil, hfn]
    refine trodAll_carry (DataW.TrodAll.respare (T := (· < C.P.types.size)) (kids_rows hl hm) hz hts hA (fun p hp => hsp p (by simpa using hp))) (fun p hp => sameAt_of k8 p (hlt p (by simpa using hp)))
  · intro sp hsp
    rw [List.append_nil, hfn, hv]; rfl
  · refine ⟨k4, k6, fun i hi => ?_⟩
    rw [k8 i hi]
    cases hh : W.heap[i]? with
    | none => trivial
    | some o => cases o <;> simp
  · rintro _ hp b off rfl
    unfold World.frozen?
    rw [k8 b (hlt _ hp)]
  · intro j t r h1 h2
    rw [hres] at h1 h2
    cases j with
    | zero =>
      simp at h1; subst h1
      simp [Value.resultList] at h2; subst h2
      simp [Value.okWide, htb, Cell.okWide, Cell.ok]
    | succ j => simp at h1
end
end Go.VS
/-
  The seat's program: its tables are right; its variable; what its arguments stand for. (A text of this claim's own; nothing of it is trusted.)
-/
namespace Go.VS
open Go Go.Proofs Go.RowKit Go.ChangeShapes Go.WideShapes

theorem cfgOK : CfgOK cfg where
  ty := fun _ _ h => tyTab_ok.find h
  fn := fun _ _ h => fnTab_ok.find h
  enter := fun _ _ h => enTab_ok.find h
  mixed := by kernel_rfl
  eqok := fun t h => by
    have h1 : (eqTab.find t).isSome = true := h
    cases hf : eqTab.find t with
    | none => rw [hf] at h1; cases h1
    | some u =>
      have := eqTab_ok.find hf
      unfold eqB at this
      simp only [Bool.and_eq_true, Bool.not_eq_true'] at this
      refine ⟨this.1.1, this.1.2, fun fs hfs f hm => ?_⟩
      have h2 := this.2
      have hfs' : Tryd.prog.underlying t = some (.struct fs) := hfs
      rw [hfs'] at h2
      simp only [List.all_eq_true, bne_iff_ne] at h2
      exact h2 f hm
theorem extOK : ExtOK cfg where
  pure := fun K g args d h => by rw [zk] at h; cases h
  inl := fun K g args objs nxt d objs' nxt' h => by rw [cfg_xinl] at h; cases h
theorem gOne : Tryd.prog.globalNamed "acreage/paper.one" = some 0 := by kernel_rfl
theorem gOneType : (Tryd.prog.globals[0]?).map (·.type) = some 34 := by kernel_rfl
theorem ty34f : ∃ f0 f1 : Field, Tryd.prog.underlying 34 = some (.struct #[f0, f1]) ∧ f0.type = 3 ∧ f1.type = 3 ∧ f0.offset = 0 ∧ f1.offset = 1 := ⟨_, _, Tryd.underlying34, rfl, rfl, rfl, rfl⟩
theorem globOK {W : World} (h : laidMetH Tryd.prog [("acreage/paper.one", YtbndhgnkgoggmaaDoor.Rows.laid_acreage_paper_one)] W) : GlobOK cfg (memOf W) := by
  obtain ⟨ps, ⟨g', t', cs, fuel, p, q, hg', ht', hvar, hd, _, _⟩, _⟩ := h
  obtain rfl := Option.some.inj (gOne.symm.trans hg')
  obtain rfl := Option.some.inj (gOneType.symm.trans ht')
  obtain ⟨f0, f1, hu, a0, a1, b0, b1⟩ := ty34f
  obtain ⟨xs, n, rfl, hx, hl, hxl, hf⟩ := DataW.trod_struct hu hd
  have hc34 : Tryd.prog.cellsOf 34 = 2 := by kernel_rfl
  have hc3 : Tryd.prog.cellsOf 3 = 1 := by kernel_rfl
  rw [hc34] at hl
  have h0 := hf 0 f0 rfl
  have h1 := hf 1 f1 rfl
  rw [a0, b0, hc3] at h0
  rw [a1, b1, hc3] at h1
  have hxs : xs.map (·.1) = [.lit (.int .i64 1), .lit (.int .i64 1)] := by
    have := congrArg Prod.fst hx
    simp [YtbndhgnkgoggmaaDoor.Rows.laid_acreage_paper_one] at this
    exact this.symm
  obtain ⟨x0, x1, rfl⟩ : ∃ x0 x1, xs = [x0, x1] := by
    match xs, hxl with
    | [x0, x1], _ => exact ⟨x0, x1, rfl⟩
  simp at hxs h0 h1
  obtain ⟨v0, v1, hcs⟩ : ∃ v0 v1, cs.toList = [v0, v1] := by
    match hc : cs.toList, (by simpa using hl : cs.toList.length = 2) with
    | [v0, v1], _ => exact ⟨v0, v1, rfl⟩
  rw [hcs] at h0 h1
  obtain ⟨n0, e0, q0, _⟩ := DataW.trod_int Tryd.underlying3 h0
  obtain ⟨n1, e1, q1, _⟩ := DataW.trod_int Tryd.underlying3 h1
  simp at e0 e1
  subst e0 e1
  rw [q0, q1] at hxs
  simp at hxs
  obtain ⟨rfl, rfl⟩ := hxs
  intro g d hgd
  have hgd' : (if g = 0 then some (.agg [I 1, I 1]) else none) = some d := hgd
  split at hgd'
  · rename_i hg; subst hg
    cases hgd'
    refine ⟨.agg cs, ?_, fun j u hu => ?_⟩
    · simp only [Rep]
      exact ⟨cs, rfl, by rw [hcs]; simp [zC, Rep]⟩
    · have := World.var?_cell gOne hvar j
      unfold memOf
      rw [Nat.zero_add, this]
      simpa [Value.cells] using hu
  · cases hgd'

/-! ### arguments -/
set_option maxRecDepth 100000
theorem laid_out : laidOutB Tryd.prog = true := by kernel_rfl
theorem maps_rowed : mapsRowed Tryd.prog = true := by kernel_rfl
theorem sl_full : ∀ t e, t < Tryd.prog.types.size → Tryd.prog.underlying t = some (.slice e) → 0 < Tryd.prog.cellsOf e := slices_full_of Tryd.prog (by kernel_rfl)
section
variable {H : Type} {enc : TypeId × Value → H} {w : World} {base base' : Nat} {sp : Nat → Bool} {held : Bool}
theorem arg_rep {t : TypeId} {v : Value} {d : DataW H} {p : List MemPlace} {r : Reach} (h : DataW.Trod enc Tryd.prog w base sp held t v d p) (hv : Value.okWide Tryd.prog w r base' t v) (ht : topT cfg 8 t = true) (hr : rowedT cfg 8 t = true) :
    ∃ ds, zC (memOf w) noLoc ds v.cells.toList ∧ Sh cfg 8 t ds := by
  obtain ⟨n, hn⟩ := h
  exact trod_rep (C := cfg) (fun t ty h => tyTab_ok.find h) 8 n t _ _ hn ht hr (.inl (plain_arg hv))
end
theorem i64_min : IntKind.i64.min = -9223372036854775808 := by rfl
theorem i64_max : IntKind.i64.max = 9223372036854775807 := by rfl
def R64 (n : Int) : Prop := -9223372036854775808 ≤ n ∧ n ≤ 9223372036854775807
theorem sh_int {f : Nat} {ds : List D} (h : Sh cfg (f + 1) 3 ds) : ∃ n, ds = [I n] ∧ R64 n := by
  simp only [Sh, cfg_ty, cty3, ty3] at h
  obtain ⟨n, h1, h2, h3⟩ := h
  rw [i64_min] at h2
  rw [i64_max] at h3
  exact ⟨n, h1, h2, h3⟩
theorem sh_bool {f : Nat} {ds : List D} (h : Sh cfg (f + 1) 4 ds) : ∃ b, ds = [B b] := by
  simp only [Sh, cfg_ty, cty4, ty4] at h
  exact h
theorem part_one {ds : List D} {k : Nat} {d : D} (h : (ds.drop k).take 1 = [d]) : ds[k]? = some d := by
  have := congrArg (fun l => l[0]?) h
  simpa [List.getElem?_take, List.getElem?_drop] using this
theorem field_int {f k : Nat} {fs : List (TypeId × Nat)} {ds : List D} (hf : ∀ p ∈ fs, ∃ tf, cfg.ty p.1 = some tf ∧ Sh cfg (f + 1) p.1 ((ds.drop p.2).take tf.size)) (hm : (3, k) ∈ fs) : ∃ n, ds[k]? = some (I n) ∧ R64 n := by
  obtain ⟨tf, h1, h2⟩ := hf _ hm
  have : tf = ty3 := by rw [cfg_ty] at h1; exact (Option.some.inj (cty3.symm.trans h1)).symm
  subst this
  obtain ⟨n, h3, h4⟩ := sh_int h2
  exact ⟨n, part_one h3, h4⟩
theorem field_bool {f k : Nat} {fs : List (TypeId × Nat)} {ds : List D} (hf : ∀ p ∈ fs, ∃ tf, cfg.ty p.1 = some tf ∧ Sh cfg (f + 1) p.1 ((ds.drop p.2).take tf.size)) (hm : (4, k) ∈ fs) : ∃ b, ds[k]? = some (B b) := by
  obtain ⟨tf, h1, h2⟩ := hf _ hm
  have : tf = ty4 := by rw [cfg_ty] at h1; exact (Option.some.inj (cty4.symm.trans h1)).symm
  subst this
  obtain ⟨n, h3⟩ := sh_bool h2
  exact ⟨n, part_one h3⟩
end Go.VS
/-
  What the arguments of the laws stand for, type by type. (Printed by gen/q2.py, a program of this claim's own; nothing of it is trusted.)
-/
namespace Go.VS
open Go Go.Proofs
theorem list_eq {α : Type} {l l' : List α} (h : l = l') : l' = l := h.symm
def Mark.R (m : Mark) : Prop := R64 m.sheet ∧ R64 m.axis ∧ R64 m.tru ∧ R64 m.seen ∧ R64 m.err
def Join.R (m : Join) : Prop := R64 m.a ∧ R64 m.b ∧ R64 m.axis ∧ R64 m.seenA ∧ R64 m.errA ∧ R64 m.seenB ∧ R64 m.errB
def F4.R (m : F4) : Prop := R64 m.xn ∧ R64 m.xd ∧ R64 m.yn ∧ R64 m.yd
def Reason.R (m : Reason) : Prop := R64 m.at_
def Paper.R (p : Paper) : Prop := R64 p.sheets ∧ (∀ m ∈ p.marks, m.R) ∧ (∀ m ∈ p.joins, m.R)

theorem sh_mark {f : Nat} {ds : List D} (h : Sh cfg (f + 2) 37 ds) : ∃ a0 a1 a2 a3 a4, ds = [I a0, I a1, I a2, I a3, I a4] ∧ R64 a0 ∧ R64 a1 ∧ R64 a2 ∧ R64 a3 ∧ R64 a4 := by
  rw [Sh, cfg_ty, cty37] at h
  simp only [ty37] at h
  obtain ⟨hl, hf⟩ := h
  obtain ⟨a0, h0, b0⟩ := field_int (k := 0) hf (by simp)
  obtain ⟨a1, h1, b1⟩ := field_int (k := 1) hf (by simp)
  obtain ⟨a2, h2, b2⟩ := field_int (k := 2) hf (by simp)
  obtain ⟨a3, h3, b3⟩ := field_int (k := 3) hf (by simp)
  obtain ⟨a4, h4, b4⟩ := field_int (k := 4) hf (by simp)
  rcases ds with _ | ⟨x0, _ | ⟨x1, _ | ⟨x2, _ | ⟨x3, _ | ⟨x4, _ | ⟨y, r⟩⟩⟩⟩⟩⟩
  all_goals simp at hl
  simp at h0 h1 h2 h3 h4
  refine ⟨a0, a1, a2, a3, a4, by simp [*], b0, b1, b2, b3, b4⟩

theorem sh_join {f : Nat} {ds : List D} (h : Sh cfg (f + 2) 39 ds) : ∃ a0 a1 a2 a3 a4 a5 a6, ds = [I a0, I a1, I a2, I a3, I a4, I a5, I a6] ∧ R64 a0 ∧ R64 a1 ∧ R64 a2 ∧ R64 a3 ∧ R64 a4 ∧ R64 a5 ∧ R64 a6 := by
  rw [Sh, cfg_ty, cty39] at h
  simp only [ty39] at h
  obtain ⟨hl, hf⟩ := h
  obtain ⟨a0, h0, b0⟩ := field_int (k := 0) hf (by simp)
  obtain ⟨a1, h1, b1⟩ := field_int (k := 1) hf (by simp)
  obtain ⟨a2, h2, b2⟩ := field_int (k := 2) hf (by simp)
  obtain ⟨a3, h3, b3⟩ := field_int (k := 3) hf (by simp)
  obtain ⟨a4, h4, b4⟩ := field_int (k := 4) hf (by simp)
  obtain ⟨a5, h5, b5⟩ := field_int (k := 5) hf (by simp)
  obtain ⟨a6, h6, b6⟩ := field_int (k := 6) hf (by simp)
  rcases ds with _ | ⟨x0, _ | ⟨x1, _ | ⟨x2, _ | ⟨x3, _ | ⟨x4, _ | ⟨x5, _ | ⟨x6, _ | ⟨y, r⟩⟩⟩⟩⟩⟩⟩⟩
  all_goals simp at hl
  simp at h0 h1 h2 h3 h4 h5 h6
  refine ⟨a0, a1, a2, a3, a4, a5, a6, by simp [*], b0, b1, b2, b3, b4, b5, b6⟩

theorem sh_ratio {f : Nat} {ds : List D} (h : Sh cfg (f + 2) 34 ds) : ∃ a0 a1, ds = [I a0, I a1] ∧ R64 a0 ∧ R64 a1 := by
  rw [Sh, cfg_ty, cty34] at h
  simp only [ty34] at h
  obtain ⟨hl, hf⟩ := h
  obtain ⟨a0, h0, b0⟩ := field_int (k := 0) hf (by simp)
  obtain ⟨a1, h1, b1⟩ := field_int (k := 1) hf (by simp)
  rcases ds with _ | ⟨x0, _ | ⟨x1, _ | ⟨y, r⟩⟩⟩
  all_goals simp at hl
  simp at h0 h1
  refine ⟨a0, a1, by simp [*], b0, b1⟩

theorem sh_span {f : Nat} {ds : List D} (h : Sh cfg (f + 2) 65 ds) : ∃ a0 a1, ds = [I a0, I a1] ∧ R64 a0 ∧ R64 a1 := by
  rw [Sh, cfg_ty, cty65] at h
  simp only [ty65] at h
  obtain ⟨hl, hf⟩ := h
  obtain ⟨a0, h0, b0⟩ := field_int (k := 0) hf (by simp)
  obtain ⟨a1, h1, b1⟩ := field_int (k := 1) hf (by simp)
  rcases ds with _ | ⟨x0, _ | ⟨x1, _ | ⟨y, r⟩⟩⟩
  all_goals simp at hl
  simp at h0 h1
  refine ⟨a0, a1, by simp [*], b0, b1⟩

theorem sh_reason {f : Nat} {ds : List D} (h : Sh cfg (f + 2) 81 ds) : ∃ a0 a1 a2, ds = [B a0, I a1, B a2] ∧ R64 a1 := by
  rw [Sh, cfg_ty, cty81] at h
  simp only [ty81] at h
  obtain ⟨hl, hf⟩ := h
  obtain ⟨a0, h0⟩ := field_bool (k := 0) hf (by simp)
  obtain ⟨a1, h1, b1⟩ := field_int (k := 1) hf (by simp)
  obtain ⟨a2, h2⟩ := field_bool (k := 2) hf (by simp)
  rcases ds with _ | ⟨x0, _ | ⟨x1, _ | ⟨x2, _ | ⟨y, r⟩⟩⟩⟩
  all_goals simp at hl
  simp at h0 h1 h2
  refine ⟨a0, a1, a2, by simp [*], b1⟩

theorem sh_pair {f : Nat} {ds : List D} (h : Sh cfg (f + 3) 35 ds) : ∃ a0 a1 a2 a3, ds = [I a0, I a1, I a2, I a3] ∧ R64 a0 ∧ R64 a1 ∧ R64 a2 ∧ R64 a3 := by
  rw [Sh, cfg_ty, cty35] at h
  simp only [ty35] at h
  obtain ⟨hl, te, h1, h2⟩ := h
  have : te = ty34 := by exact (Option.some.inj (cty34.symm.trans h1)).symm
  subst this
  obtain ⟨a0, a1, e0, b0, b1⟩ := sh_ratio (h2 0 (by omega))
  obtain ⟨a2, a3, e1, b2, b3⟩ := sh_ratio (h2 1 (by omega))
  rcases ds with _ | ⟨x0, _ | ⟨x1, _ | ⟨x2, _ | ⟨x3, _ | ⟨y, r⟩⟩⟩⟩⟩
  all_goals simp at hl
  simp [ty34] at e0 e1
  exact ⟨a0, a1, a2, a3, by simp [*], b0, b1, b2, b3⟩

theorem sh_marks {f : Nat} {ds : List D} (h : Sh cfg (f + 4) 22 ds) : (∃ (nl : Bool) (l : List Mark), ds = [.sl nl (l.map zm) 5 none] ∧ (nl = true → l = []) ∧ l.length ≤ 9223372036854775807 ∧ (∀ x ∈ l, Mark.R x)) ∨ ds = [.sl true [] 0 none] := by
  rw [Sh, cfg_ty, cty22] at h
  simp only [ty22] at h
  rcases h with h | ⟨els, te, h1, h2, h3, h4⟩
  · exact .inr h
  · have : te = ty37 := by exact (Option.some.inj (cty37.symm.trans h1)).symm
    subst this
    have key : ∀ els : List D, (∀ d ∈ els, Sh cfg (f + 3) 37 d.cells ∧ (ty37.isAgg = true → d = .agg d.cells) ∧ (ty37.isAgg = false → d.cells = [d])) → ∃ l : List Mark, els = l.map zm ∧ ∀ x ∈ l, Mark.R x := by
      intro els
      induction els with
      | nil => intro _; exact ⟨[], rfl, fun x hx => by cases hx⟩
      | cons d els ih =>
        intro hd
        obtain ⟨l, hl, hR⟩ := ih fun d' h' => hd d' (List.mem_cons_of_mem _ h')
        obtain ⟨q1, q2, _⟩ := hd d (by simp)
        have q2 := q2 rfl
        obtain ⟨a0, a1, a2, a3, a4, e, hb⟩ := sh_mark q1
        have hx : d = zm (⟨a0, a1, a2, a3, a4⟩ : Mark) := by rw [q2, e]; rfl
        have hxR : Mark.R (⟨a0, a1, a2, a3, a4⟩ : Mark) := hb
        exact ⟨(⟨a0, a1, a2, a3, a4⟩ : Mark) :: l, by rw [List.map_cons, ← hx, ← hl], fun y hy => by
          rcases List.mem_cons.1 hy with rfl | hy
          · exact hxR
          · exact hR y hy⟩
    obtain ⟨l, rfl, hR⟩ := key els h4
    refine .inl ⟨false, l, h2, by simp, ?_, hR⟩
    simp only [List.length_map, maxLen] at h3
    omega

theorem sh_joins {f : Nat} {ds : List D} (h : Sh cfg (f + 4) 23 ds) : (∃ (nl : Bool) (l : List Join), ds = [.sl nl (l.map zj) 7 none] ∧ (nl = true → l = []) ∧ l.length ≤ 9223372036854775807 ∧ (∀ x ∈ l, Join.R x)) ∨ ds = [.sl true [] 0 none] := by
  rw [Sh, cfg_ty, cty23] at h
  simp only [ty23] at h
  rcases h with h | ⟨els, te, h1, h2, h3, h4⟩
  · exact .inr h
  · have : te = ty39 := by exact (Option.some.inj (cty39.symm.trans h1)).symm
    subst this
    have key : ∀ els : List D, (∀ d ∈ els, Sh cfg (f + 3) 39 d.cells ∧ (ty39.isAgg = true → d = .agg d.cells) ∧ (ty39.isAgg = false → d.cells = [d])) → ∃ l : List Join, els = l.map zj ∧ ∀ x ∈ l, Join.R x := by
      intro els
      induction els with
      | nil => intro _; exact ⟨[], rfl, fun x hx => by cases hx⟩
      | cons d els ih =>
        intro hd
        obtain ⟨l, hl, hR⟩ := ih fun d' h' => hd d' (List.mem_cons_of_mem _ h')
        obtain ⟨q1, q2, _⟩ := hd d (by simp)
        have q2 := q2 rfl
        obtain ⟨a0, a1, a2, a3, a4, a5, a6, e, hb⟩ := sh_join q1
        have hx : d = zj (⟨a0, a1, a2, a3, a4, a5, a6⟩ : Join) := by rw [q2, e]; rfl
        have hxR : Join.R (⟨a0, a1, a2, a3, a4, a5, a6⟩ : Join) := hb
        exact ⟨(⟨a0, a1, a2, a3, a4, a5, a6⟩ : Join) :: l, by rw [List.map_cons, ← hx, ← hl], fun y hy => by
          rcases List.mem_cons.1 hy with rfl | hy
          · exact hxR
          · exact hR y hy⟩
    obtain ⟨l, rfl, hR⟩ := key els h4
    refine .inl ⟨false, l, h2, by simp, ?_, hR⟩
    simp only [List.length_map, maxLen] at h3
    omega

theorem sh_factors {f : Nat} {ds : List D} (h : Sh cfg (f + 4) 27 ds) : (∃ (nl : Bool) (l : List F4), ds = [.sl nl (l.map encF) 4 none] ∧ (nl = true → l = []) ∧ l.length ≤ 9223372036854775807 ∧ (∀ x ∈ l, F4.R x)) ∨ ds = [.sl true [] 0 none] := by
  rw [Sh, cfg_ty, cty27] at h
  simp only [ty27] at h
  rcases h with h | ⟨els, te, h1, h2, h3, h4⟩
  · exact .inr h
  · have : te = ty35 := by exact (Option.some.inj (cty35.symm.trans h1)).symm
    subst this
    have key : ∀ els : List D, (∀ d ∈ els, Sh cfg (f + 3) 35 d.cells ∧ (ty35.isAgg = true → d = .agg d.cells) ∧ (ty35.isAgg = false → d.cells = [d])) → ∃ l : List F4, els = l.map encF ∧ ∀ x ∈ l, F4.R x := by
      intro els
      induction els with
      | nil => intro _; exact ⟨[], rfl, fun x hx => by cases hx⟩
      | cons d els ih =>
        intro hd
        obtain ⟨l, hl, hR⟩ := ih fun d' h' => hd d' (List.mem_cons_of_mem _ h')
        obtain ⟨q1, q2, _⟩ := hd d (by simp)
        have q2 := q2 rfl
        obtain ⟨a0, a1, a2, a3, e, hb⟩ := sh_pair q1
        have hx : d = encF (⟨a0, a1, a2, a3⟩ : F4) := by rw [q2, e]; rfl
        have hxR : F4.R (⟨a0, a1, a2, a3⟩ : F4) := hb
        exact ⟨(⟨a0, a1, a2, a3⟩ : F4) :: l, by rw [List.map_cons, ← hx, ← hl], fun y hy => by
          rcases List.mem_cons.1 hy with rfl | hy
          · exact hxR
          · exact hR y hy⟩
    obtain ⟨l, rfl, hR⟩ := key els h4
    refine .inl ⟨false, l, h2, by simp, ?_, hR⟩
    simp only [List.length_map, maxLen] at h3
    omega

theorem sh_reasons {f : Nat} {ds : List D} (h : Sh cfg (f + 4) 70 ds) : (∃ (nl : Bool) (l : List Reason), ds = [.sl nl (l.map encW) 3 none] ∧ (nl = true → l = []) ∧ l.length ≤ 9223372036854775807 ∧ (∀ x ∈ l, Reason.R x)) ∨ ds = [.sl true [] 0 none] := by
  rw [Sh, cfg_ty, cty70] at h
  simp only [ty70] at h
  rcases h with h | ⟨els, te, h1, h2, h3, h4⟩
  · exact .inr h
  · have : te = ty81 := by exact (Option.some.inj (cty81.symm.trans h1)).symm
    subst this
    have key : ∀ els : List D, (∀ d ∈ els, Sh cfg (f + 3) 81 d.cells ∧ (ty81.isAgg = true → d = .agg d.cells) ∧ (ty81.isAgg = false → d.cells = [d])) → ∃ l : List Reason, els = l.map encW ∧ ∀ x ∈ l, Reason.R x := by
      intro els
      induction els with
      | nil => intro _; exact ⟨[], rfl, fun x hx => by cases hx⟩
      | cons d els ih =>
        intro hd
        obtain ⟨l, hl, hR⟩ := ih fun d' h' => hd d' (List.mem_cons_of_mem _ h')
        obtain ⟨q1, q2, _⟩ := hd d (by simp)
        have q2 := q2 rfl
        obtain ⟨a0, a1, a2, e, hb⟩ := sh_reason q1
        have hx : d = encW (⟨a0, a1, a2⟩ : Reason) := by rw [q2, e]; rfl
        have hxR : Reason.R (⟨a0, a1, a2⟩ : Reason) := hb
        exact ⟨(⟨a0, a1, a2⟩ : Reason) :: l, by rw [List.map_cons, ← hx, ← hl], fun y hy => by
          rcases List.mem_cons.1 hy with rfl | hy
          · exact hxR
          · exact hR y hy⟩
    obtain ⟨l, rfl, hR⟩ := key els h4
    refine .inl ⟨false, l, h2, by simp, ?_, hR⟩
    simp only [List.length_map, maxLen] at h3
    omega

set_option maxRecDepth 100000
/-- A nil slice of whatever size of element is the same value. -/
theorem rep_nil {M : Mem} {m : Loc} {sz : Nat} {v : Value} (h : Rep M m (.sl true [] 0 none) v) : Rep M m (.sl true [] sz none) v := by
  simp only [Rep] at h ⊢
  exact ⟨h.1, by simp⟩
theorem rep_zs {α : Type} {M : Mem} {m : Loc} {nl : Bool} {l : List α} {g : α → D} {k : Nat} {v : Value} (hn : nl = true → l = []) (h : Rep M m (.sl nl (l.map g) k none) v) : Rep M m (.sl nl (l.map g) (zs nl k) none) v := by
  cases nl with
  | false => exact h
  | true => rw [hn rfl] at h ⊢; exact rep_nil (by simp only [Rep] at h ⊢; exact ⟨fun _ => ⟨by simp, (h.1 trivial).2⟩, by simp⟩)
theorem repL_one {M : Mem} {m : Loc} {d : D} {cs : List Value} (h : zC M m [d] cs) : ∃ v, cs = [v] ∧ Rep M m d v := by
  simp only [zC] at h
  obtain ⟨v, r, h1, h2, rfl⟩ := h
  exact ⟨v, h1, h2⟩
section
variable {H : Type} {enc : TypeId × Value → H} {w : World} {base base' : Nat} {sp : Nat → Bool} {held : Bool} {v : Value} {d : DataW H} {p : List MemPlace} {r : Reach}
theorem one_cell {x u : Value} (h : x.cells.toList = [u]) (hp : ∀ cs, x ≠ .agg cs) : x = u := by
  cases x <;> simp [Value.cells] at h <;> first | exact h | exact absurd rfl (hp _)
theorem ok_notAgg {t : TypeId} (hv : Value.okWide Tryd.prog w r base' t v) (hs : ∀ fs, Tryd.prog.underlying t ≠ some (.struct fs)) (ha : ∀ n e, Tryd.prog.underlying t ≠ some (.array n e)) : ∀ cs, v ≠ .agg cs := by
  rintro cs rfl
  unfold Value.okWide at hv
  split at hv
  · rename_i h; exact hs _ h
  · rename_i h; exact ha _ _ h
  · unfold Cell.okWide at hv
    split at hv <;> try (rename_i h1 h2; cases h2; done)
    unfold Cell.ok at hv
    split at hv <;> first | (rename_i h1 h2; cases h2; done) | cases hv
theorem arg_int (h : DataW.Trod enc Tryd.prog w base sp held 3 v d p) (hv : Value.okWide Tryd.prog w r base' 3 v) : ∃ n, v = .int .i64 n ∧ R64 n := by
  obtain ⟨ds, h1, h2⟩ := arg_rep h hv (by kernel_rfl) (by kernel_rfl)
  obtain ⟨n, rfl, hn⟩ := sh_int h2
  obtain ⟨u, e, hu⟩ := repL_one h1
  simp only [Rep] at hu; subst hu
  exact ⟨n, one_cell e (ok_notAgg hv (by rw [Tryd.underlying3]; simp) (by rw [Tryd.underlying3]; simp)), hn⟩
theorem arg_bool (h : DataW.Trod enc Tryd.prog w base sp held 4 v d p) (hv : Value.okWide Tryd.prog w r base' 4 v) : ∃ b, v = .bool b := by
  obtain ⟨ds, h1, h2⟩ := arg_rep h hv (by kernel_rfl) (by kernel_rfl)
  obtain ⟨n, rfl⟩ := sh_bool h2
  obtain ⟨u, e, hu⟩ := repL_one h1
  simp only [Rep] at hu; subst hu
  exact ⟨n, one_cell e (ok_notAgg hv (by rw [Tryd.underlying4]; simp) (by rw [Tryd.underlying4]; simp))⟩
theorem agg_of {t : TypeId} (hv : Value.okWide Tryd.prog w r base' t v) (hs : (∃ fs, Tryd.prog.underlying t = some (.struct fs)) ∨ (∃ n e, Tryd.prog.underlying t = some (.array n e))) : ∃ cs, v = .agg cs := by
  unfold Value.okWide at hv
  rcases hs with ⟨fs, hs⟩ | ⟨n, e, hs⟩ <;> rw [hs] at hv <;> simp only [] at hv <;> obtain ⟨cs, rfl, _⟩ := hv <;> exact ⟨cs, rfl⟩
theorem arg_paper (h : DataW.Trod enc Tryd.prog w base sp held 25 v d p) (hv : Value.okWide Tryd.prog w r base' 25 v) : ∃ q : Paper, Rep (memOf w) noLoc (zh q) v ∧ q.wf ∧ q.R := by
  obtain ⟨ds, h1, h2⟩ := arg_rep h hv (by kernel_rfl) (by kernel_rfl)
  obtain ⟨cs, rfl⟩ := agg_of hv (.inl ⟨_, Tryd.underlying25⟩)
  rw [Sh, cfg_ty, cty25] at h2
  simp only [ty25] at h2
  obtain ⟨hl, hf⟩ := h2
  obtain ⟨n, hn, hR⟩ := field_int (k := 0) hf (by simp)
  obtain ⟨t1, e1, s1⟩ := hf (22, 1) (by simp)
  obtain ⟨t2, e2, s2⟩ := hf (23, 2) (by simp)
  have : t1 = ty22 := by exact (Option.some.inj (cty22.symm.trans e1)).symm
  subst this
  have : t2 = ty23 := by exact (Option.some.inj (cty23.symm.trans e2)).symm
  subst this
  rcases ds with _ | ⟨x0, _ | ⟨x1, _ | ⟨x2, _ | ⟨y, rr⟩⟩⟩⟩
  all_goals simp at hl
  simp at hn
  subst hn
  simp [ty22] at s1
  simp [ty23] at s2
  simp only [Value.cells, zC] at h1
  obtain ⟨v0, r0, hc0, q0, v1, r1, rfl, q1, v2, r2, rfl, q2, rfl⟩ := h1
  have m1 : ∃ (nl : Bool) (l : List Mark), Rep (memOf w) noLoc (.sl nl (l.map zm) (zs nl 5) none) v1 ∧ (nl = true → l = []) ∧ l.length ≤ 9223372036854775807 ∧ ∀ x ∈ l, x.R := by
    rcases sh_marks s1 with ⟨nl, l, e, a, b, c⟩ | e <;> simp at e <;> subst e
    · exact ⟨nl, l, rep_zs a q1, a, b, c⟩
    · exact ⟨true, [], rep_zs (by simp) (rep_nil q1), by simp, by simp, fun x hx => by cases hx⟩
  have m2 : ∃ (nl : Bool) (l : List Join), Rep (memOf w) noLoc (.sl nl (l.map zj) (zs nl 7) none) v2 ∧ (nl = true → l = []) ∧ l.length ≤ 9223372036854775807 ∧ ∀ x ∈ l, x.R := by
    rcases sh_joins s2 with ⟨nl, l, e, a, b, c⟩ | e <;> simp at e <;> subst e
    · exact ⟨nl, l, rep_zs a q2, a, b, c⟩
    · exact ⟨true, [], rep_zs (by simp) (rep_nil q2), by simp, by simp, fun x hx => by cases hx⟩
  obtain ⟨nm, lm, a1, a2, a3, a4⟩ := m1
  obtain ⟨nj, lj, b1, b2, b3, b4⟩ := m2
  refine ⟨⟨n, nm, lm, nj, lj⟩, ?_, ⟨a2, b2, a3, b3⟩, hR, a4, b4⟩
  simp only [Rep, zh] at *
  exact ⟨cs, rfl, by rw [hc0]; simp only [zC]; exact ⟨_, _, rfl, by simpa [Rep] using q0, _, _, rfl, by simpa only [Rep] using a1, _, _, rfl, by simpa only [Rep] using b1, rfl⟩⟩
theorem arg_factors (h : DataW.Trod enc Tryd.prog w base sp held 27 v d p) (hv : Value.okWide Tryd.prog w r base' 27 v) : ∃ (nl : Bool) (l : List F4), Rep (memOf w) noLoc (.sl nl (l.map encF) 4 none) v ∧ (nl = true → l = []) ∧ l.length ≤ 9223372036854775807 ∧ ∀ x ∈ l, x.R := by
  obtain ⟨ds, h1, h2⟩ := arg_rep h hv (by kernel_rfl) (by kernel_rfl)
  have hna := ok_notAgg hv (by rw [Tryd.underlying27]; simp) (by rw [Tryd.underlying27]; simp)
  rcases sh_factors h2 with ⟨nl, l, e, a, b, c⟩ | e
  · subst e
    obtain ⟨u, e, hu⟩ := repL_one h1
    rw [one_cell e hna]; exact ⟨nl, l, hu, a, b, c⟩
  · subst e
    obtain ⟨u, e, hu⟩ := repL_one h1
    rw [one_cell e hna]; exact ⟨true, [], rep_nil hu, by simp, by simp, fun x hx => by cases hx⟩
theorem arg_reasons (h : DataW.Trod enc Tryd.prog w base sp held 70 v d p) (hv : Value.okWide Tryd.prog w r base' 70 v) : ∃ (nl : Bool) (l : List Reason), Rep (memOf w) noLoc (.sl nl (l.map encW) 3 none) v ∧ (nl = true → l = []) ∧ l.length ≤ 9223372036854775807 ∧ ∀ x ∈ l, x.R := by
  obtain ⟨ds, h1, h2⟩ := arg_rep h hv (by kernel_rfl) (by kernel_rfl)
  have hna := ok_notAgg hv (by rw [Tryd.underlying70]; simp) (by rw [Tryd.underlying70]; simp)
  rcases sh_reasons h2 with ⟨nl, l, e, a, b, c⟩ | e
  · subst e
    obtain ⟨u, e, hu⟩ := repL_one h1
    rw [one_cell e hna]; exact ⟨nl, l, hu, a, b, c⟩
  · subst e
    obtain ⟨u, e, hu⟩ := repL_one h1
    rw [one_cell e hna]; exact ⟨true, [], rep_nil hu, by simp, by simp, fun x hx => by cases hx⟩
theorem arg_ratio (h : DataW.Trod enc Tryd.prog w base sp held 34 v d p) (hv : Value.okWide Tryd.prog w r base' 34 v) : ∃ q : Ratio, Rep (memOf w) noLoc (encR q) v ∧ R64 q.n ∧ R64 q.d := by
  obtain ⟨ds, h1, h2⟩ := arg_rep h hv (by kernel_rfl) (by kernel_rfl)
  obtain ⟨cs, rfl⟩ := agg_of hv (.inl ⟨_, Tryd.underlying34⟩)
  obtain ⟨a, b, rfl, ha, hb⟩ := sh_ratio h2
  exact ⟨⟨a, b⟩, by simp only [Rep, encR]; exact ⟨cs, rfl, by simpa [Value.cells] using h1⟩, ha, hb⟩
theorem arg_span (h : DataW.Trod enc Tryd.prog w base sp held 65 v d p) (hv : Value.okWide Tryd.prog w r base' 65 v) : ∃ q : Span, Rep (memOf w) noLoc (encS q) v ∧ R64 q.lo ∧ R64 q.hi := by
  obtain ⟨ds, h1, h2⟩ := arg_rep h hv (by kernel_rfl) (by kernel_rfl)
  obtain ⟨cs, rfl⟩ := agg_of hv (.inl ⟨_, Tryd.underlying65⟩)
  obtain ⟨a, b, rfl, ha, hb⟩ := sh_span h2
  exact ⟨⟨a, b⟩, by simp only [Rep, encS]; exact ⟨cs, rfl, by simpa [Value.cells] using h1⟩, ha, hb⟩
theorem arg_reason (h : DataW.Trod enc Tryd.prog w base sp held 81 v d p) (hv : Value.okWide Tryd.prog w r base' 81 v) : ∃ q : Reason, Rep (memOf w) noLoc (encW q) v ∧ q.R := by
  obtain ⟨ds, h1, h2⟩ := arg_rep h hv (by kernel_rfl) (by kernel_rfl)
  obtain ⟨cs, rfl⟩ := agg_of hv (.inl ⟨_, Tryd.underlying81⟩)
  obtain ⟨a, b, c, rfl, hb⟩ := sh_reason h2
  exact ⟨⟨a, b, c⟩, by simp only [Rep, encW]; exact ⟨cs, rfl, by simpa [Value.cells] using h1⟩, hb⟩
theorem arg_mark (h : DataW.Trod enc Tryd.prog w base sp held 37 v d p) (hv : Value.okWide Tryd.prog w r base' 37 v) : ∃ q : Mark, Rep (memOf w) noLoc (zm q) v ∧ q.R := by
  obtain ⟨ds, h1, h2⟩ := arg_rep h hv (by kernel_rfl) (by kernel_rfl)
  obtain ⟨cs, rfl⟩ := agg_of hv (.inl ⟨_, Tryd.underlying37⟩)
  obtain ⟨a, b, c, d, e, rfl, hb⟩ := sh_mark h2
  exact ⟨⟨a, b, c, d, e⟩, by simp only [Rep, zm]; exact ⟨cs, rfl, by simpa [Value.cells] using h1⟩, hb⟩
theorem arg_join (h : DataW.Trod enc Tryd.prog w base sp held 39 v d p) (hv : Value.okWide Tryd.prog w r base' 39 v) : ∃ q : Join, Rep (memOf w) noLoc (zj q) v ∧ q.R := by
  obtain ⟨ds, h1, h2⟩ := arg_rep h hv (by kernel_rfl) (by kernel_rfl)
  obtain ⟨cs, rfl⟩ := agg_of hv (.inl ⟨_, Tryd.underlying39⟩)
  obtain ⟨a, b, c, d, e, f, g, rfl, hb⟩ := sh_join h2
  exact ⟨⟨a, b, c, d, e, f, g⟩, by simp only [Rep, zj]; exact ⟨cs, rfl, by simpa [Value.cells] using h1⟩, hb⟩
end
end Go.VS
