/- Nothing of a statement is proved in this text alone: it is part 5 of the proof's own tools, an evaluator of the code over deep values, its soundness, and what it makes of this seat's functions. Conditions: none beyond the statement's own. -/
import Derived.Test.YtbndhgnkgoggmaaDoorVsCardR4
import Derived.OpenShut
import Derived.Deep.Slices
import Derived.ChangeStays
import Derived.ReadAgain
import Derived.ChangeSame
import Derived.ChangeBears2
set_option linter.unusedSimpArgs false
set_option linter.unusedVariables false
namespace Go.VS
open Go Go.Proofs
set_option maxHeartbeats 0
set_option linter.unusedSimpArgs false

noncomputable def lp84_3 : Code := zz [1, 1, 0, 1, 0, 0] (zo Tryd.f84)
theorem lk84_3 : cfg.keep 84 (zr lp84_3) = [1, 2, 4, 5, 6] := by kernel_rfl
noncomputable def lp84_8 : Code := zz [1, 1, 1, 1, 0, 1, 0, 0] (zo Tryd.f84)
theorem lk84_8 : cfg.keep 84 (zr lp84_8) = [4, 5, 7, 8] := by kernel_rfl

noncomputable def lp80_2 : Code := zz [1, 0, 1, 0, 0] (zo Tryd.f80)
theorem lk80_2 : cfg.keep 80 (zr lp80_2) = [1, 3] := by kernel_rfl
noncomputable def lp80_6 : Code := zz [1, 0, 1, 0, 0, 1, 0, 0, 1, 1, 0, 0] (zo Tryd.f80)
theorem lk80_6 : cfg.keep 80 (zr lp80_6) = [1, 3, 4, 5] := by kernel_rfl

noncomputable def lp82_7 : Code := zz [1, 1, 1, 0, 1, 0, 0] (zo Tryd.f82)
theorem lk82_7 : cfg.keep 82 (zr lp82_7) = [1, 2, 3, 8] := by kernel_rfl

def diagF (k : Nat) : NetF := fun i j => if i = j ∧ i < k then ⟨1, 1⟩ else ⟨0, 0⟩
theorem cN_drop {c : NetF} : (cN c).drop 50 = [] := rfl
theorem diag_step {k : Nat} (hk : k < 5) : cN (putF (diagF k) k k ⟨1, 1⟩) = cN (diagF (k + 1)) := by
  rcases five hk with rfl | rfl | rfl | rfl | rfl <;> rfl
theorem L84_3 {F : Exit → St → Option D} (p : Paper) (ax : Int) (k : List Kt) (x : D) (h : zB cfg (lim cfg) 84 F k (.exit 0) ⟨29, [(10, B false), (9, I (5 : Nat)), (1, I ax), (2, .lref 0 0 3 0), (4, .lref 1 0 50 0), (5, .lref 2 0 50 0), (6, I (5 : Nat))], [(0, ⟨[zt p], 3, false⟩), (1, ⟨[.agg zN], 50, false⟩), (2, ⟨[.agg (cN (diagF 5))], 50, false⟩)], 3, 0⟩ = some x) : ∀ (n i : Nat), i + n = 5 → EvL cfg (lim cfg) 84 F lp84_3 k ⟨29, [(1, I ax), (2, .lref 0 0 3 0), (4, .lref 1 0 50 0), (5, .lref 2 0 50 0), (6, I (i : Nat))], [(0, ⟨[zt p], 3, false⟩), (1, ⟨[.agg zN], 50, false⟩), (2, ⟨[.agg (cN (diagF i))], 50, false⟩)], 3, 0⟩ = some x := by
  intro n
  induction n with
  | zero =>
    intro i hi
    obtain rfl : i = 5 := by omega
    refine zk ?_
    try dsimp only [lp84_3, zz, zo, Tryd.f84]
    simp only [bW, if_true, Nat.reduceEqDiff, if_false]
    repeat' first
      | (intro hb; first | cases hb | skip)
      | ((first | apply z8 | apply ze)
         · rfl
         · simp (disch := assumption) only [go_sem, Nat.reduceEqDiff, Nat.reduceAdd, bP, zf, Nat.reduceLeDiff, Nat.reduceLT, Nat.reduceMul, List.length_append, decide_eq_true_eq, z9, z6, Int.reduceToNat, Int.reduceLE, Int.reduceLT, Int.reduceBNe, Int.reduceBEq, show (decide (((5 : Nat) : Int) < 5)) = false from rfl]
           rfl
         · simp only [go_sem, Nat.reduceLT, Nat.reduceEqDiff]
           rfl
         · rfl
         first
         | (apply zd
            · simp only [z5, z0, Nat.reduceLT, decide_true, cond_true, ins]
              rfl
            · simp only [z5, z0, Nat.reduceLT, decide_true, cond_true, ins]
              rfl)
         | (apply zh
            · simp only [z5, z0, Nat.reduceLT, decide_true, cond_true, ins]
              rfl))
      | ((first | apply zb | apply zc)
         · rfl
         · simp only [z5, z0, Nat.reduceLT, decide_true, cond_true, ins]
           rfl)
      | (apply za
         · simp only [go_sem, Nat.reduceEqDiff])
      | (apply z7
         · simp only [go_sem, Nat.reduceEqDiff])
      | (apply zg
         · kernel_rfl
         · kernel_rfl)
      | (simp only [bW, if_true, Nat.reduceEqDiff, if_false])
    exact h
  | succ n ih =>
    intro i hi
    have hi5 : i < 5 := by omega
    have hi1 : ((i : Int) < 5) = True := by simp; omega
    have hi2 : (i < 5) = True := by simp; omega
    have hw3 : IntKind.i64.wrap ((i : Int) + 1) = ((i + 1 : Nat) : Int) := by rw [wrap_i64 (by omega) (by omega)]; omega
    have ha50 : (i * 10 + i * 2 + 2 ≤ 50) = True := by simp; omega
    have hput := (cN_put (c := diagF i) (r := ⟨1, 1⟩) hi5 hi5).trans (diag_step hi5)
    simp only [] at hput
    refine zk ?_
    try dsimp only [lp84_3, zz, zo, Tryd.f84]
    simp only [bW, if_true, Nat.reduceEqDiff, if_false]
    repeat' first
      | (intro hb; first | cases hb | skip)
      | ((first | apply z8 | apply ze)
         · rfl
         · simp (disch := assumption) only [go_sem, Nat.reduceEqDiff, Nat.reduceAdd, bP, zf, Nat.reduceLeDiff, Nat.reduceLT, Nat.reduceMul, List.length_append, decide_eq_true_eq, z9, z6, Int.reduceToNat, Int.reduceLE, Int.reduceLT, Int.reduceBNe, Int.reduceBEq, hi1, hi2, hw3, ha50, hput, cN_len, cN_one, cN_take, zN_len, zN_one, zN_drop]
           rfl
         · simp only [go_sem, Nat.reduceLT, Nat.reduceEqDiff]
           rfl
         · rfl
         first
         | (apply zd
            · simp only [z5, z0, Nat.reduceLT, decide_true, cond_true, ins]
              rfl
            · simp only [z5, z0, Nat.reduceLT, decide_true, cond_true, ins]
              rfl)
         | (apply zh
            · simp only [z5, z0, Nat.reduceLT, decide_true, cond_true, ins]
              rfl))
      | ((first | apply zb | apply zc)
         · rfl
         · simp only [z5, z0, Nat.reduceLT, decide_true, cond_true, ins]
           rfl)
      | (apply za
         · simp only [go_sem, Nat.reduceEqDiff])
      | (apply z7
         · simp only [go_sem, Nat.reduceEqDiff])
      | (apply zg
         · kernel_rfl
         · kernel_rfl)
      | (simp only [bW, if_true, Nat.reduceEqDiff, if_false])
    refine zu (st1 := ⟨29, [(1, I ax), (2, .lref 0 0 3 0), (4, .lref 1 0 50 0), (5, .lref 2 0 50 0), (6, I (i + 1 : Nat))], [(0, ⟨[zt p], 3, false⟩), (1, ⟨[.agg zN], 50, false⟩), (2, ⟨[.agg (cN (diagF (i + 1)))], 50, false⟩)], 3, 0⟩) lk84_3 (by
      simp only [go_sem, List.map_append, Nat.reduceEqDiff, Nat.reduceLT, Nat.reduceAdd, bI, bD, bI2, cN_ids, cN_ren, zN_ids, zN_ren]
      try rfl) (ih (i + 1) (by omega))

theorem L84_8 {F : Exit → St → Option D} (es : List Edge) (k : List Kt) (x : D) (hes : ∀ e ∈ es, eB e) (hlen : es.length ≤ 1000) : ∀ (n i : Nat) (c : NetF), i + n = 5 → nB (2000 ^ i) c →
    zB cfg (lim cfg) 84 F k (.exit 2) ⟨29, [(22, B false), (21, I (5 : Nat)), (4, .lref 0 0 50 0), (5, .lref 1 0 50 0), (7, .sl false (es.map encY) 7 none), (8, I (5 : Nat))], [(0, ⟨[.agg zN], 50, false⟩), (1, ⟨[.agg (cN (iterF es n c))], 50, false⟩)], 2, 0⟩ = some x →
    EvL cfg (lim cfg) 84 F lp84_8 k ⟨29, [(4, .lref 0 0 50 0), (5, .lref 1 0 50 0), (7, .sl false (es.map encY) 7 none), (8, I (i : Nat))], [(0, ⟨[.agg zN], 50, false⟩), (1, ⟨[.agg (cN (c))], 50, false⟩)], 2, 0⟩ = some x := by
  intro n
  induction n with
  | zero =>
    intro i c hi hc h
    obtain rfl : i = 5 := by omega
    simp only [iterF] at h
    refine zk ?_
    try dsimp only [lp84_8, zz, zo, Tryd.f84]
    simp only [bW, if_true, Nat.reduceEqDiff, if_false]
    repeat' first
      | (intro hb; first | cases hb | skip)
      | ((first | apply z8 | apply ze)
         · rfl
         · simp (disch := assumption) only [go_sem, Nat.reduceEqDiff, Nat.reduceAdd, bP, zf, Nat.reduceLeDiff, Nat.reduceLT, Nat.reduceMul, List.length_append, decide_eq_true_eq, z9, z6, Int.reduceToNat, Int.reduceLE, Int.reduceLT, Int.reduceBNe, Int.reduceBEq, show (decide (((5 : Nat) : Int) < 5)) = false from rfl]
           rfl
         · simp only [go_sem, Nat.reduceLT, Nat.reduceEqDiff]
           rfl
         · rfl
         first
         | (apply zd
            · simp only [z5, z0, Nat.reduceLT, decide_true, cond_true, ins]
              rfl
            · simp only [z5, z0, Nat.reduceLT, decide_true, cond_true, ins]
              rfl)
         | (apply zh
            · simp only [z5, z0, Nat.reduceLT, decide_true, cond_true, ins]
              rfl))
      | ((first | apply zb | apply zc)
         · rfl
         · simp only [z5, z0, Nat.reduceLT, decide_true, cond_true, ins]
           rfl)
      | (apply za
         · simp only [go_sem, Nat.reduceEqDiff])
      | (apply z7
         · simp only [go_sem, Nat.reduceEqDiff])
      | (apply zg
         · kernel_rfl
         · kernel_rfl)
      | (simp only [bW, if_true, Nat.reduceEqDiff, if_false])
    exact h
  | succ n ih =>
    intro i c hi hc h
    have hi1 : ((i : Int) < 5) = True := by simp; omega
    have hw3 : IntKind.i64.wrap ((i : Int) + 1) = ((i + 1 : Nat) : Int) := by rw [wrap_i64 (by omega) (by omega)]; omega
    have hp1 : (1 : Int) ≤ 2000 ^ i := Int.pow_pos (by omega)
    have hp2 : (2000 : Int) ^ i ≤ 16000000000000 := by
      rcases five (show i < 5 by omega) with rfl | rfl | rfl | rfl | rfl <;> decide
    have h110 := t110 es c (2000 ^ i) hp1 hp2 hc hes hlen
    have hc' := longB hp1 hc hes
    rw [Int.mul_comm, ← Int.pow_succ] at hc'
    simp only [iterF] at h
    refine zk ?_
    try dsimp only [lp84_8, zz, zo, Tryd.f84]
    simp only [bW, if_true, Nat.reduceEqDiff, if_false]
    repeat' first
      | (intro hb; first | cases hb | skip)
      | ((first | apply z8 | apply ze)
         · rfl
         · simp (disch := assumption) only [go_sem, Nat.reduceEqDiff, Nat.reduceAdd, bP, zf, Nat.reduceLeDiff, Nat.reduceLT, Nat.reduceMul, List.length_append, decide_eq_true_eq, z9, z6, Int.reduceToNat, Int.reduceLE, Int.reduceLT, Int.reduceBNe, Int.reduceBEq, hi1, hw3, h110, cN_snap, cN_flat, okY.snapAll, cN_drop, cN_len, cN_one, cN_take, zN_len, zN_one, zN_drop]
           rfl
         · simp only [go_sem, Nat.reduceLT, Nat.reduceEqDiff]
           rfl
         · rfl
         first
         | (apply zd
            · simp only [z5, z0, Nat.reduceLT, decide_true, cond_true, ins]
              rfl
            · simp only [z5, z0, Nat.reduceLT, decide_true, cond_true, ins]
              rfl)
         | (apply zh
            · simp only [z5, z0, Nat.reduceLT, decide_true, cond_true, ins]
              rfl))
      | ((first | apply zb | apply zc)
         · rfl
         · simp only [z5, z0, Nat.reduceLT, decide_true, cond_true, ins]
           rfl)
      | (apply za
         · simp only [go_sem, Nat.reduceEqDiff])
      | (apply z7
         · simp only [go_sem, Nat.reduceEqDiff])
      | (apply zg
         · kernel_rfl
         · kernel_rfl)
      | (simp only [bW, if_true, Nat.reduceEqDiff, if_false])
    refine zu (st1 := ⟨29, [(4, .lref 0 0 50 0), (5, .lref 1 0 50 0), (7, .sl false (es.map encY) 7 none), (8, I (i + 1 : Nat))], [(0, ⟨[.agg zN], 50, false⟩), (1, ⟨[.agg (cN (foldF c es c))], 50, false⟩)], 2, 0⟩) lk84_8 (by
      simp only [go_sem, List.map_append, Nat.reduceEqDiff, Nat.reduceLT, Nat.reduceAdd, bI, bD, bI2, cN_ids, cN_ren, zN_ids, zN_ren]
      try rfl) (ih (i + 1) _ (by omega) hc' h)

theorem t84 (p : Paper) (ax : Int) (hwf : p.wf) (hok : zn p = true) : (lim cfg).pure 84 [zt p, I ax] = some (.agg (cN (netR p ax))) := by
  have h109 := t109 p ax hwf hok
  obtain ⟨r1, r2⟩ := refE_len hok ax
  have hb := refE_B hok ax
  unfold netR
  rw [show startF = diagF 5 from rfl]
  generalize refE p ax = es at *
  refine zm (zj 84) cfn84 rfl (n := 29) rfl ?_
  generalize hF : finP cfg Tryd.f84 = F
  simp only [bW, if_true, Nat.reduceEqDiff, if_false, zl]
  repeat' first
    | (intro hb; first | cases hb | skip)
    | ((first | apply z8 | apply ze)
       · rfl
       · simp (disch := assumption) only [go_sem, Nat.reduceEqDiff, Nat.reduceAdd, bP, zf, Nat.reduceLeDiff, Nat.reduceLT, Nat.reduceMul, List.length_append, decide_eq_true_eq, z9, z6, Int.reduceToNat, Int.reduceLE, Int.reduceLT, Int.reduceBNe, Int.reduceBEq, cN_len, cN_one, cN_take, zN_len, zN_one, zN_drop]
         rfl
       · simp only [go_sem, Nat.reduceLT, Nat.reduceEqDiff]
         rfl
       · rfl
       first
       | (apply zd
          · simp only [z5, z0, Nat.reduceLT, decide_true, cond_true, ins]
            rfl
          · simp only [z5, z0, Nat.reduceLT, decide_true, cond_true, ins]
            rfl)
       | (apply zh
          · simp only [z5, z0, Nat.reduceLT, decide_true, cond_true, ins]
            rfl))
    | ((first | apply zb | apply zc)
       · rfl
       · simp only [z5, z0, Nat.reduceLT, decide_true, cond_true, ins]
         rfl)
    | (apply za
       · simp only [go_sem, Nat.reduceEqDiff])
    | (apply z7
       · simp only [go_sem, Nat.reduceEqDiff])
    | (apply zg
       · kernel_rfl
       · kernel_rfl)
    | (simp only [bW, if_true, Nat.reduceEqDiff, if_false])
  refine zS (st1 := ⟨29, [(1, I ax), (2, .lref 0 0 3 0), (4, .lref 1 0 50 0), (5, .lref 2 0 50 0), (6, I (0 : Nat))], [(0, ⟨[zt p], 3, false⟩), (1, ⟨[.agg zN], 50, false⟩), (2, ⟨[.agg (cN (diagF 0))], 50, false⟩)], 3, 0⟩) lk84_3 (by
    simp only [go_sem, List.map_append, Nat.reduceEqDiff, Nat.reduceLT, Nat.reduceAdd, bI, bD, bI2, cN_ids, cN_ren, zN_ids, zN_ren]
    try rfl) (L84_3 p ax _ _ ?_ 5 0 rfl)
  simp only [bW, if_true, Nat.reduceEqDiff, if_false]
  repeat' first
    | (intro hb; first | cases hb | skip)
    | ((first | apply z8 | apply ze)
       · rfl
       · simp (disch := assumption) only [go_sem, Nat.reduceEqDiff, Nat.reduceAdd, bP, zf, Nat.reduceLeDiff, Nat.reduceLT, Nat.reduceMul, List.length_append, decide_eq_true_eq, z9, z6, Int.reduceToNat, Int.reduceLE, Int.reduceLT, Int.reduceBNe, Int.reduceBEq, h109, cN_len, cN_one, cN_take, zN_len, zN_one, zN_drop]
         rfl
       · simp only [go_sem, Nat.reduceLT, Nat.reduceEqDiff]
         rfl
       · rfl
       first
       | (apply zd
          · simp only [z5, z0, Nat.reduceLT, decide_true, cond_true, ins]
            rfl
          · simp only [z5, z0, Nat.reduceLT, decide_true, cond_true, ins]
            rfl)
       | (apply zh
          · simp only [z5, z0, Nat.reduceLT, decide_true, cond_true, ins]
            rfl))
    | ((first | apply zb | apply zc)
       · rfl
       · simp only [z5, z0, Nat.reduceLT, decide_true, cond_true, ins]
         rfl)
    | (apply za
       · simp only [go_sem, Nat.reduceEqDiff])
    | (apply z7
       · simp only [go_sem, Nat.reduceEqDiff])
    | (apply zg
       · kernel_rfl
       · kernel_rfl)
    | (simp only [bW, if_true, Nat.reduceEqDiff, if_false])
  refine zS (st1 := ⟨29, [(4, .lref 0 0 50 0), (5, .lref 1 0 50 0), (7, .sl false (es.map encY) 7 none), (8, I (0 : Nat))], [(0, ⟨[.agg zN], 50, false⟩), (1, ⟨[.agg (cN (diagF 5))], 50, false⟩)], 2, 0⟩) lk84_8 (by
    simp only [go_sem, List.map_append, Nat.reduceEqDiff, Nat.reduceLT, Nat.reduceAdd, bI, bD, bI2, cN_ids, cN_ren, zN_ids, zN_ren]
    try rfl) (L84_8 es _ _ hb r1 5 0 _ rfl startB ?_)
  simp only [bW, if_true, Nat.reduceEqDiff, if_false]
  repeat' first
    | (intro hb; first | cases hb | skip)
    | ((first | apply z8 | apply ze)
       · rfl
       · simp (disch := assumption) only [go_sem, Nat.reduceEqDiff, Nat.reduceAdd, bP, zf, Nat.reduceLeDiff, Nat.reduceLT, Nat.reduceMul, List.length_append, decide_eq_true_eq, z9, z6, Int.reduceToNat, Int.reduceLE, Int.reduceLT, Int.reduceBNe, Int.reduceBEq, cN_len, cN_one, cN_take, zN_len, zN_one, zN_drop]
         rfl
       · simp only [go_sem, Nat.reduceLT, Nat.reduceEqDiff]
         rfl
       · rfl
       first
       | (apply zd
          · simp only [z5, z0, Nat.reduceLT, decide_true, cond_true, ins]
            rfl
          · simp only [z5, z0, Nat.reduceLT, decide_true, cond_true, ins]
            rfl)
       | (apply zh
          · simp only [z5, z0, Nat.reduceLT, decide_true, cond_true, ins]
            rfl))
    | ((first | apply zb | apply zc)
       · rfl
       · simp only [z5, z0, Nat.reduceLT, decide_true, cond_true, ins]
         rfl)
    | (apply za
       · simp only [go_sem, Nat.reduceEqDiff])
    | (apply z7
       · simp only [go_sem, Nat.reduceEqDiff])
    | (apply zg
       · kernel_rfl
       · kernel_rfl)
    | (simp only [bW, if_true, Nat.reduceEqDiff, if_false])
  subst hF
  simp only [go_sem, Nat.reduceEqDiff, bP, Nat.reduceAdd, Nat.reduceLeDiff, List.length_map, Tryd.f84, cN_len, cN_one, cN_take, zN_len, zN_one, zN_drop, cN_snap]

theorem t98 (n d : Int) : (lim cfg).pure 98 [.agg [I n, I d]] = some (.agg [I d, I n]) := by
  refine zm (zj 98) cfn98 rfl (n := 8) rfl ?_
  simp only [bW, if_true, Nat.reduceEqDiff, if_false, zl]
  repeat' first
    | (intro hb; first | cases hb | skip)
    | ((first | apply z8 | apply ze)
       · rfl
       · simp (disch := assumption) only [go_sem, Nat.reduceEqDiff, Nat.reduceAdd, bP, zf, Nat.reduceLeDiff, Nat.reduceLT, Nat.reduceMul, List.length_append, decide_eq_true_eq, z9, z6, Int.reduceToNat, Int.reduceLE, Int.reduceLT, Int.reduceBNe, Int.reduceBEq]
         rfl
       · simp only [go_sem, Nat.reduceLT, Nat.reduceEqDiff]
         rfl
       · rfl
       first
       | (apply zd
          · simp only [z5, z0, Nat.reduceLT, decide_true, cond_true, ins]
            rfl
          · simp only [z5, z0, Nat.reduceLT, decide_true, cond_true, ins]
            rfl)
       | (apply zh
          · simp only [z5, z0, Nat.reduceLT, decide_true, cond_true, ins]
            rfl))
    | ((first | apply zb | apply zc)
       · rfl
       · simp only [z5, z0, Nat.reduceLT, decide_true, cond_true, ins]
         rfl)
    | (apply za
       · simp only [go_sem, Nat.reduceEqDiff])
    | (apply z7
       · simp only [go_sem, Nat.reduceEqDiff])
    | (apply zg
       · kernel_rfl
       · kernel_rfl)
    | (simp only [bW, if_true, Nat.reduceEqDiff, if_false])
  all_goals simp only [go_sem, Nat.reduceEqDiff, bP, Nat.reduceAdd, Nat.reduceLeDiff, List.length_map, Tryd.f98]
  all_goals first | rfl | (simp_all []; done) | (simp_all []; intros; omega)

theorem L80_6 {F : Exit → St → Option D} (p : Paper) (c : NetF) (a : Int) (k : List Kt) (x : D) (hk : ∀ st, get st.tmps 2 = B false → zB cfg (lim cfg) 80 F k .ret st = some (B false)) : ∀ (n j : Nat), j + n = 5 →
    ((∀ i, j ≤ i → i < 5 → diagOK c i = true) → zB cfg (lim cfg) 80 F k (.exit 2) ⟨30, [(14, B false), (13, I (5 : Nat)), (1, .lref 0 0 3 0), (3, I a), (4, .lref 1 0 50 0), (5, I (5 : Nat))], [(0, ⟨[zt p], 3, false⟩), (1, ⟨[.agg (cN (c))], 50, false⟩)], 2, 0⟩ = some x) →
    ((∃ i, j ≤ i ∧ i < 5 ∧ diagOK c i = false) → x = B false) →
    EvL cfg (lim cfg) 80 F lp80_6 k ⟨30, [(1, .lref 0 0 3 0), (3, I a), (4, .lref 1 0 50 0), (5, I (j : Nat))], [(0, ⟨[zt p], 3, false⟩), (1, ⟨[.agg (cN (c))], 50, false⟩)], 2, 0⟩ = some x := by
  intro n
  induction n with
  | zero =>
    intro j hj h h'
    obtain rfl : j = 5 := by omega
    refine zk ?_
    try dsimp only [lp80_6, zz, zo, Tryd.f80]
    simp only [bW, if_true, Nat.reduceEqDiff, if_false]
    repeat' first
      | (intro hb; first | cases hb | skip)
      | ((first | apply z8 | apply ze)
         · rfl
         · simp (disch := assumption) only [go_sem, Nat.reduceEqDiff, Nat.reduceAdd, bP, zf, Nat.reduceLeDiff, Nat.reduceLT, Nat.reduceMul, List.length_append, decide_eq_true_eq, z9, z6, Int.reduceToNat, Int.reduceLE, Int.reduceLT, Int.reduceBNe, Int.reduceBEq, show (decide (((5 : Nat) : Int) < 5)) = false from rfl]
           rfl
         · simp only [go_sem, Nat.reduceLT, Nat.reduceEqDiff]
           rfl
         · rfl
         first
         | (apply zd
            · simp only [z5, z0, Nat.reduceLT, decide_true, cond_true, ins]
              rfl
            · simp only [z5, z0, Nat.reduceLT, decide_true, cond_true, ins]
              rfl)
         | (apply zh
            · simp only [z5, z0, Nat.reduceLT, decide_true, cond_true, ins]
              rfl))
      | ((first | apply zb | apply zc)
         · rfl
         · simp only [z5, z0, Nat.reduceLT, decide_true, cond_true, ins]
           rfl)
      | (apply za
         · simp only [go_sem, Nat.reduceEqDiff])
      | (apply z7
         · simp only [go_sem, Nat.reduceEqDiff])
      | (apply zg
         · kernel_rfl
         · kernel_rfl)
      | (simp only [bW, if_true, Nat.reduceEqDiff, if_false])
    exact h fun i h1 h2 => by omega
  | succ n ih =>
    intro j hj h h'
    have hj5 : j < 5 := by omega
    have hi1 : ((j : Int) < 5) = True := by simp; omega
    have hi2 : (j < 5) = True := by simp; omega
    have hw3 : IntKind.i64.wrap ((j : Int) + 1) = ((j + 1 : Nat) : Int) := by rw [wrap_i64 (by omega) (by omega)]; omega
    obtain ⟨hN, hN2, hD⟩ := cN_get (c := c) hj5 hj5
    cases hd : diagOK c j with
    | true =>
      have hd1 : decide ((c j j).n < (c j j).d) = false := by simpa [diagOK] using hd
      refine zk ?_
      try dsimp only [lp80_6, zz, zo, Tryd.f80]
      simp only [bW, if_true, Nat.reduceEqDiff, if_false]
      repeat' first
        | (intro hb; first | cases hb | skip)
        | ((first | apply z8 | apply ze)
           · rfl
           · simp (disch := assumption) only [go_sem, Nat.reduceEqDiff, Nat.reduceAdd, bP, zf, Nat.reduceLeDiff, Nat.reduceLT, Nat.reduceMul, List.length_append, decide_eq_true_eq, z9, z6, Int.reduceToNat, Int.reduceLE, Int.reduceLT, Int.reduceBNe, Int.reduceBEq, hi1, hi2, hw3, hN, hN2, hd1, cN_len, cN_one, cN_take, zN_len, zN_one, zN_drop]
             rfl
           · simp only [go_sem, Nat.reduceLT, Nat.reduceEqDiff]
             rfl
           · rfl
           first
           | (apply zd
              · simp only [z5, z0, Nat.reduceLT, decide_true, cond_true, ins]
                rfl
              · simp only [z5, z0, Nat.reduceLT, decide_true, cond_true, ins]
                rfl)
           | (apply zh
              · simp only [z5, z0, Nat.reduceLT, decide_true, cond_true, ins]
                rfl))
        | ((first | apply zb | apply zc)
           · rfl
           · simp only [z5, z0, Nat.reduceLT, decide_true, cond_true, ins]
             rfl)
        | (apply za
           · simp only [go_sem, Nat.reduceEqDiff])
        | (apply z7
           · simp only [go_sem, Nat.reduceEqDiff])
        | (apply zg
           · kernel_rfl
           · kernel_rfl)
        | (simp only [bW, if_true, Nat.reduceEqDiff, if_false])
      refine zu (st1 := ⟨30, [(1, .lref 0 0 3 0), (3, I a), (4, .lref 1 0 50 0), (5, I (j + 1 : Nat))], [(0, ⟨[zt p], 3, false⟩), (1, ⟨[.agg (cN (c))], 50, false⟩)], 2, 0⟩) lk80_6 (by
        simp only [go_sem, List.map_append, Nat.reduceEqDiff, Nat.reduceLT, Nat.reduceAdd, bI, bD, bI2, cN_ids, cN_ren, zN_ids, zN_ren, zt]
        try rfl) (ih (j + 1) (by omega) (fun ha => h fun i h1 h2 => ?_) (fun ⟨i, h1, h2, h3⟩ => h' ⟨i, by omega, h2, h3⟩))
      by_cases hij : i = j
      · rw [hij]; exact hd
      · exact ha i (by omega) h2
    | false =>
      have hd1 : decide ((c j j).n < (c j j).d) = true := by simpa [diagOK] using hd
      rw [h' ⟨j, Nat.le_refl _, hj5, hd⟩]
      refine zk ?_
      try dsimp only [lp80_6, zz, zo, Tryd.f80]
      simp only [bW, if_true, Nat.reduceEqDiff, if_false]
      repeat' first
        | (intro hb; first | cases hb | skip)
        | ((first | apply z8 | apply ze)
           · rfl
           · simp (disch := assumption) only [go_sem, Nat.reduceEqDiff, Nat.reduceAdd, bP, zf, Nat.reduceLeDiff, Nat.reduceLT, Nat.reduceMul, List.length_append, decide_eq_true_eq, z9, z6, Int.reduceToNat, Int.reduceLE, Int.reduceLT, Int.reduceBNe, Int.reduceBEq, hi1, hi2, hw3, hN, hN2, hd1, cN_len, cN_one, cN_take, zN_len, zN_one, zN_drop]
             rfl
           · simp only [go_sem, Nat.reduceLT, Nat.reduceEqDiff]
             rfl
           · rfl
           first
           | (apply zd
              · simp only [z5, z0, Nat.reduceLT, decide_true, cond_true, ins]
                rfl
              · simp only [z5, z0, Nat.reduceLT, decide_true, cond_true, ins]
                rfl)
           | (apply zh
              · simp only [z5, z0, Nat.reduceLT, decide_true, cond_true, ins]
                rfl))
        | ((first | apply zb | apply zc)
           · rfl
           · simp only [z5, z0, Nat.reduceLT, decide_true, cond_true, ins]
             rfl)
        | (apply za
           · simp only [go_sem, Nat.reduceEqDiff])
        | (apply z7
           · simp only [go_sem, Nat.reduceEqDiff])
        | (apply zg
           · kernel_rfl
           · kernel_rfl)
        | (simp only [bW, if_true, Nat.reduceEqDiff, if_false])
      exact hk _ rfl
theorem t80' (p : Paper) (hwf : p.wf) (hok : zn p = true) : (lim cfg).pure 80 [zt p] = some (B (canF p)) := by
  have h840 := t84 p 0 hwf hok
  have h841 := t84 p 1 hwf hok
  have hneg : ∀ c : NetF, (∃ i, 0 ≤ i ∧ i < 5 ∧ diagOK c i = false) → diagAll c = false := by
    rintro c ⟨i, _, h2, h3⟩
    cases h : diagAll c with
    | false => rfl
    | true => rw [diagAll_iff.1 h i h2] at h3; cases h3
  unfold canF
  refine zm (zj 80) cfn80 rfl (n := 30) rfl ?_
  generalize hF : finP cfg Tryd.f80 = F
  simp only [bW, if_true, Nat.reduceEqDiff, if_false, zl]
  have hret : ∀ (v : Bool) st, get st.tmps 2 = B v → F .ret st = some (B v) := by
    intro v st h
    subst hF
    simp only [go_sem, Nat.reduceEqDiff, bP, Nat.reduceAdd, Nat.reduceLeDiff, List.length_map, Tryd.f80, h]
  repeat' first
    | (intro hb; first | cases hb | skip)
    | ((first | apply z8 | apply ze)
       · rfl
       · simp (disch := assumption) only [go_sem, Nat.reduceEqDiff, Nat.reduceAdd, bP, zf, Nat.reduceLeDiff, Nat.reduceLT, Nat.reduceMul, List.length_append, decide_eq_true_eq, z9, z6, Int.reduceToNat, Int.reduceLE, Int.reduceLT, Int.reduceBNe, Int.reduceBEq]
         rfl
       · simp only [go_sem, Nat.reduceLT, Nat.reduceEqDiff]
         rfl
       · rfl
       first
       | (apply zd
          · simp only [z5, z0, Nat.reduceLT, decide_true, cond_true, ins]
            rfl
          · simp only [z5, z0, Nat.reduceLT, decide_true, cond_true, ins]
            rfl)
       | (apply zh
          · simp only [z5, z0, Nat.reduceLT, decide_true, cond_true, ins]
            rfl))
    | ((first | apply zb | apply zc)
       · rfl
       · simp only [z5, z0, Nat.reduceLT, decide_true, cond_true, ins]
         rfl)
    | (apply za
       · simp only [go_sem, Nat.reduceEqDiff])
    | (apply z7
       · simp only [go_sem, Nat.reduceEqDiff])
    | (apply zg
       · kernel_rfl
       · kernel_rfl)
    | (simp only [bW, if_true, Nat.reduceEqDiff, if_false])
  refine zS (st1 := ⟨30, [(1, .lref 0 0 3 0), (3, I 0)], [(0, ⟨[zt p], 3, false⟩)], 1, 0⟩) lk80_2 (by kernel_rfl) ?_
  refine zk ?_
  try dsimp only [lp80_2, zz, zo, Tryd.f80]
  simp only [bW, if_true, Nat.reduceEqDiff, if_false]
  repeat' first
    | (intro hb; first | cases hb | skip)
    | ((first | apply z8 | apply ze)
       · rfl
       · simp (disch := assumption) only [go_sem, Nat.reduceEqDiff, Nat.reduceAdd, bP, zf, Nat.reduceLeDiff, Nat.reduceLT, Nat.reduceMul, List.length_append, decide_eq_true_eq, z9, z6, Int.reduceToNat, Int.reduceLE, Int.reduceLT, Int.reduceBNe, Int.reduceBEq, h840, cN_one, cN_len, zN_len, zN_drop, cN_flat]
         rfl
       · simp only [go_sem, Nat.reduceLT, Nat.reduceEqDiff]
         rfl
       · rfl
       first
       | (apply zd
          · simp only [z5, z0, Nat.reduceLT, decide_true, cond_true, ins]
            rfl
          · simp only [z5, z0, Nat.reduceLT, decide_true, cond_true, ins]
            rfl)
       | (apply zh
          · simp only [z5, z0, Nat.reduceLT, decide_true, cond_true, ins]
            rfl))
    | ((first | apply zb | apply zc)
       · rfl
       · simp only [z5, z0, Nat.reduceLT, decide_true, cond_true, ins]
         rfl)
    | (apply za
       · simp only [go_sem, Nat.reduceEqDiff])
    | (apply z7
       · simp only [go_sem, Nat.reduceEqDiff])
    | (apply zg
       · kernel_rfl
       · kernel_rfl)
    | (simp only [bW, if_true, Nat.reduceEqDiff, if_false])
  refine zS (st1 := ⟨30, [(1, .lref 0 0 3 0), (3, I 0), (4, .lref 1 0 50 0), (5, I (0 : Nat))], [(0, ⟨[zt p], 3, false⟩), (1, ⟨[.agg (cN (netR p 0))], 50, false⟩)], 2, 0⟩) lk80_6 (by
    simp only [go_sem, List.map_append, Nat.reduceEqDiff, Nat.reduceLT, Nat.reduceAdd, bI, bD, bI2, cN_ids, cN_ren, zN_ids, zN_ren, zt]
    try rfl) (L80_6 p _ 0 _ _ (fun st h => by simp only [bW, if_true, Nat.reduceEqDiff, if_false]; exact hret false st h) 5 0 rfl (fun h0 => ?_) (fun h => by rw [hneg _ h, Bool.false_and]))
  rw [diagAll_iff.2 fun i hi => h0 i (Nat.zero_le _) hi, Bool.true_and]
  simp only [bW, if_true, Nat.reduceEqDiff, if_false]
  repeat' first
    | (intro hb; first | cases hb | skip)
    | ((first | apply z8 | apply ze)
       · rfl
       · simp (disch := assumption) only [go_sem, Nat.reduceEqDiff, Nat.reduceAdd, bP, zf, Nat.reduceLeDiff, Nat.reduceLT, Nat.reduceMul, List.length_append, decide_eq_true_eq, z9, z6, Int.reduceToNat, Int.reduceLE, Int.reduceLT, Int.reduceBNe, Int.reduceBEq, show IntKind.i64.wrap (0 + 1) = 1 from by decide]
         rfl
       · simp only [go_sem, Nat.reduceLT, Nat.reduceEqDiff]
         rfl
       · rfl
       first
       | (apply zd
          · simp only [z5, z0, Nat.reduceLT, decide_true, cond_true, ins]
            rfl
          · simp only [z5, z0, Nat.reduceLT, decide_true, cond_true, ins]
            rfl)
       | (apply zh
          · simp only [z5, z0, Nat.reduceLT, decide_true, cond_true, ins]
            rfl))
    | ((first | apply zb | apply zc)
       · rfl
       · simp only [z5, z0, Nat.reduceLT, decide_true, cond_true, ins]
         rfl)
    | (apply za
       · simp only [go_sem, Nat.reduceEqDiff])
    | (apply z7
       · simp only [go_sem, Nat.reduceEqDiff])
    | (apply zg
       · kernel_rfl
       · kernel_rfl)
    | (simp only [bW, if_true, Nat.reduceEqDiff, if_false])
  refine zu (st1 := ⟨30, [(1, .lref 0 0 3 0), (3, I 1)], [(0, ⟨[zt p], 3, false⟩)], 1, 0⟩) lk80_2 (by
    simp only [go_sem, List.map_append, Nat.reduceEqDiff, Nat.reduceLT, Nat.reduceAdd, bI, bD, bI2, cN_ids, cN_ren, zN_ids, zN_ren, zt]
    try rfl) ?_
  refine zk ?_
  try dsimp only [lp80_2, zz, zo, Tryd.f80]
  simp only [bW, if_true, Nat.reduceEqDiff, if_false]
  repeat' first
    | (intro hb; first | cases hb | skip)
    | ((first | apply z8 | apply ze)
       · rfl
       · simp (disch := assumption) only [go_sem, Nat.reduceEqDiff, Nat.reduceAdd, bP, zf, Nat.reduceLeDiff, Nat.reduceLT, Nat.reduceMul, List.length_append, decide_eq_true_eq, z9, z6, Int.reduceToNat, Int.reduceLE, Int.reduceLT, Int.reduceBNe, Int.reduceBEq, h841, cN_one, cN_len, zN_len, zN_drop, cN_flat]
         rfl
       · simp only [go_sem, Nat.reduceLT, Nat.reduceEqDiff]
         rfl
       · rfl
       first
       | (apply zd
          · simp only [z5, z0, Nat.reduceLT, decide_true, cond_true, ins]
            rfl
          · simp only [z5, z0, Nat.reduceLT, decide_true, cond_true, ins]
            rfl)
       | (apply zh
          · simp only [z5, z0, Nat.reduceLT, decide_true, cond_true, ins]
            rfl))
    | ((first | apply zb | apply zc)
       · rfl
       · simp only [z5, z0, Nat.reduceLT, decide_true, cond_true, ins]
         rfl)
    | (apply za
       · simp only [go_sem, Nat.reduceEqDiff])
    | (apply z7
       · simp only [go_sem, Nat.reduceEqDiff])
    | (apply zg
       · kernel_rfl
       · kernel_rfl)
    | (simp only [bW, if_true, Nat.reduceEqDiff, if_false])
  refine zS (st1 := ⟨30, [(1, .lref 0 0 3 0), (3, I 1), (4, .lref 1 0 50 0), (5, I (0 : Nat))], [(0, ⟨[zt p], 3, false⟩), (1, ⟨[.agg (cN (netR p 1))], 50, false⟩)], 2, 0⟩) lk80_6 (by
    simp only [go_sem, List.map_append, Nat.reduceEqDiff, Nat.reduceLT, Nat.reduceAdd, bI, bD, bI2, cN_ids, cN_ren, zN_ids, zN_ren, zt]
    try rfl) (L80_6 p _ 1 _ _ (fun st h => by simp only [bW, if_true, Nat.reduceEqDiff, if_false]; exact hret false st h) 5 0 rfl (fun h1 => ?_) (fun h => by rw [hneg _ h]))
  rw [diagAll_iff.2 fun i hi => h1 i (Nat.zero_le _) hi]
  simp only [bW, if_true, Nat.reduceEqDiff, if_false]
  repeat' first
    | (intro hb; first | cases hb | skip)
    | ((first | apply z8 | apply ze)
       · rfl
       · simp (disch := assumption) only [go_sem, Nat.reduceEqDiff, Nat.reduceAdd, bP, zf, Nat.reduceLeDiff, Nat.reduceLT, Nat.reduceMul, List.length_append, decide_eq_true_eq, z9, z6, Int.reduceToNat, Int.reduceLE, Int.reduceLT, Int.reduceBNe, Int.reduceBEq, show IntKind.i64.wrap (1 + 1) = 2 from by decide]
         rfl
       · simp only [go_sem, Nat.reduceLT, Nat.reduceEqDiff]
         rfl
       · rfl
       first
       | (apply zd
          · simp only [z5, z0, Nat.reduceLT, decide_true, cond_true, ins]
            rfl
          · simp only [z5, z0, Nat.reduceLT, decide_true, cond_true, ins]
            rfl)
       | (apply zh
          · simp only [z5, z0, Nat.reduceLT, decide_true, cond_true, ins]
            rfl))
    | ((first | apply zb | apply zc)
       · rfl
       · simp only [z5, z0, Nat.reduceLT, decide_true, cond_true, ins]
         rfl)
    | (apply za
       · simp only [go_sem, Nat.reduceEqDiff])
    | (apply z7
       · simp only [go_sem, Nat.reduceEqDiff])
    | (apply zg
       · kernel_rfl
       · kernel_rfl)
    | (simp only [bW, if_true, Nat.reduceEqDiff, if_false])
  refine zu (st1 := ⟨30, [(1, .lref 0 0 3 0), (3, I 2)], [(0, ⟨[zt p], 3, false⟩)], 1, 0⟩) lk80_2 (by
    simp only [go_sem, List.map_append, Nat.reduceEqDiff, Nat.reduceLT, Nat.reduceAdd, bI, bD, bI2, cN_ids, cN_ren, zN_ids, zN_ren, zt]
    try rfl) ?_
  refine zk ?_
  try dsimp only [lp80_2, zz, zo, Tryd.f80]
  simp only [bW, if_true, Nat.reduceEqDiff, if_false]
  repeat' first
    | (intro hb; first | cases hb | skip)
    | ((first | apply z8 | apply ze)
       · rfl
       · simp (disch := assumption) only [go_sem, Nat.reduceEqDiff, Nat.reduceAdd, bP, zf, Nat.reduceLeDiff, Nat.reduceLT, Nat.reduceMul, List.length_append, decide_eq_true_eq, z9, z6, Int.reduceToNat, Int.reduceLE, Int.reduceLT, Int.reduceBNe, Int.reduceBEq]
         rfl
       · simp only [go_sem, Nat.reduceLT, Nat.reduceEqDiff]
         rfl
       · rfl
       first
       | (apply zd
          · simp only [z5, z0, Nat.reduceLT, decide_true, cond_true, ins]
            rfl
          · simp only [z5, z0, Nat.reduceLT, decide_true, cond_true, ins]
            rfl)
       | (apply zh
          · simp only [z5, z0, Nat.reduceLT, decide_true, cond_true, ins]
            rfl))
    | ((first | apply zb | apply zc)
       · rfl
       · simp only [z5, z0, Nat.reduceLT, decide_true, cond_true, ins]
         rfl)
    | (apply za
       · simp only [go_sem, Nat.reduceEqDiff])
    | (apply z7
       · simp only [go_sem, Nat.reduceEqDiff])
    | (apply zg
       · kernel_rfl
       · kernel_rfl)
    | (simp only [bW, if_true, Nat.reduceEqDiff, if_false])
  exact hret true _ rfl
theorem t80 (p : Paper) (hwf : p.wf) (hok : zn p = true) : (lim cfg).pure 80 [zt p] = some (B (possibleF p)) := by rw [← can_possible hok]; exact t80' p hwf hok

theorem L82_7 {F : Exit → St → Option D} (p : Paper) (ax : Int) (nl : Bool) (ss : List Int) (k : List Kt) (x : D) (sz : Nat) (hsz : nl = false → sz = 1) (hnl : nl = true → ss = []) (hlen : ss.length ≤ 9223372036854775807) (hsh : IntKind.i64.wrap (p.sheets - 1) = p.sheets - 1) (hk : ∀ st, get st.tmps 6 = I 1 → zB cfg (lim cfg) 82 F k .ret st = some (I 1)) : ∀ (rest : List Int) (i : Nat), ss.drop i = rest → i ≤ ss.length →
    (rest.all (zw p) = true → zB cfg (lim cfg) 82 F k (.exit 0) ⟨35, [(20, B false), (19, I ss.length), (18, .sl nl (ss.map I) sz none), (17, I (ss.length : Nat)), (1, I ax), (2, .sl nl (ss.map I) sz none), (3, .lref 0 0 3 0), (8, I (ss.length : Nat))], [(0, ⟨[zt p], 3, false⟩)], 1, 0⟩ = some x) →
    (rest.all (zw p) = false → x = I 1) →
    EvL cfg (lim cfg) 82 F lp82_7 k ⟨35, [(1, I ax), (2, .sl nl (ss.map I) sz none), (3, .lref 0 0 3 0), (8, I (i : Nat))], [(0, ⟨[zt p], 3, false⟩)], 1, 0⟩ = some x := by
  have hls := len_if (f := I) hnl
  intro rest
  induction rest with
  | nil =>
    intro i hd hi h h'
    have hi' : i = ss.length := by
      have := List.drop_eq_nil_iff.1 hd
      omega
    subst hi'
    refine zk ?_
    try dsimp only [lp82_7, zz, zo, Tryd.f82]
    simp only [bW, if_true, Nat.reduceEqDiff, if_false]
    repeat' first
      | (intro hb; first | cases hb | skip)
      | ((first | apply z8 | apply ze)
         · rfl
         · simp (disch := assumption) only [go_sem, Nat.reduceEqDiff, Nat.reduceAdd, bP, zf, Nat.reduceLeDiff, Nat.reduceLT, Nat.reduceMul, List.length_append, decide_eq_true_eq, z9, z6, Int.reduceToNat, Int.reduceLE, Int.reduceLT, Int.reduceBNe, Int.reduceBEq, hls, Int.lt_irrefl]
           rfl
         · simp only [go_sem, Nat.reduceLT, Nat.reduceEqDiff]
           rfl
         · rfl
         first
         | (apply zd
            · simp only [z5, z0, Nat.reduceLT, decide_true, cond_true, ins]
              rfl
            · simp only [z5, z0, Nat.reduceLT, decide_true, cond_true, ins]
              rfl)
         | (apply zh
            · simp only [z5, z0, Nat.reduceLT, decide_true, cond_true, ins]
              rfl))
      | ((first | apply zb | apply zc)
         · rfl
         · simp only [z5, z0, Nat.reduceLT, decide_true, cond_true, ins]
           rfl)
      | (apply za
         · simp only [go_sem, Nat.reduceEqDiff])
      | (apply z7
         · simp only [go_sem, Nat.reduceEqDiff])
      | (apply zg
         · kernel_rfl
         · kernel_rfl)
      | (simp only [bW, if_true, Nat.reduceEqDiff, if_false])
    exact h rfl
  | cons m rest ih =>
    intro i hd hi h h'
    have hlt : i < ss.length := by
      rcases Nat.lt_or_ge i ss.length with h | h
      · exact h
      · rw [List.drop_eq_nil_of_le h] at hd; cases hd
    have hm : ss[i]? = some m := by rw [← List.head?_drop, hd]; rfl
    have hx : (ss.map I)[i]? = some (I m) := by rw [List.getElem?_map, hm]; rfl
    have hnm : nl = false := by
      cases h : nl with
      | false => rfl
      | true => rw [hnl h] at hlt; cases hlt
    have hsz1 := hsz hnm
    clear hsz
    subst hsz1
    have hlt' : (i : Int) < (ss.length : Int) := by omega
    have hw3 : IntKind.i64.wrap ((i : Int) + 1) = ((i + 1 : Nat) : Int) := by rw [wrap_i64 (by omega) (by omega)]; omega
    have hs77 : (lim cfg).pure 77 [I m, I 0, I (p.sheets - 1)] = some (B (zw p m)) := by
      rw [t77]; unfold zw; rw [show decide (m ≤ p.sheets - 1) = decide (m < p.sheets) by rw [decide_eq_decide]; omega]
    have hlm' : ((ss.map I).length : Int) = (ss.length : Int) := by simp
    cases hs : zw p m with
    | true =>
      rw [hs] at hs77
      simp only [List.all_cons, hs, Bool.true_and] at h h'
      refine zk ?_
      try dsimp only [lp82_7, zz, zo, Tryd.f82]
      simp only [bW, if_true, Nat.reduceEqDiff, if_false]
      repeat' first
        | (intro hb; first | cases hb | skip)
        | ((first | apply z8 | apply ze)
           · rfl
           · simp (disch := assumption) only [go_sem, Nat.reduceEqDiff, Nat.reduceAdd, bP, zf, Nat.reduceLeDiff, Nat.reduceLT, Nat.reduceMul, List.length_append, decide_eq_true_eq, z9, z6, Int.reduceToNat, Int.reduceLE, Int.reduceLT, Int.reduceBNe, Int.reduceBEq, hlm', hx, hnm, hlt', hw3, hsh, hs77]
             rfl
           · simp only [go_sem, Nat.reduceLT, Nat.reduceEqDiff]
             rfl
           · rfl
           first
           | (apply zd
              · simp only [z5, z0, Nat.reduceLT, decide_true, cond_true, ins]
                rfl
              · simp only [z5, z0, Nat.reduceLT, decide_true, cond_true, ins]
                rfl)
           | (apply zh
              · simp only [z5, z0, Nat.reduceLT, decide_true, cond_true, ins]
                rfl))
        | ((first | apply zb | apply zc)
           · rfl
           · simp only [z5, z0, Nat.reduceLT, decide_true, cond_true, ins]
             rfl)
        | (apply za
           · simp only [go_sem, Nat.reduceEqDiff])
        | (apply z7
           · simp only [go_sem, Nat.reduceEqDiff])
        | (apply zg
           · kernel_rfl
           · kernel_rfl)
        | (simp only [bW, if_true, Nat.reduceEqDiff, if_false])
      exact zu (st1 := ⟨35, [(1, I ax), (2, .sl nl (ss.map I) 1 none), (3, .lref 0 0 3 0), (8, I (i + 1 : Nat))], [(0, ⟨[zt p], 3, false⟩)], 1, 0⟩) lk82_7 (by kernel_rfl) (ih (i + 1) (by rw [← List.drop_drop, hd]; rfl) hlt h h')
    | false =>
      rw [hs] at hs77
      rw [h' (by simp [hs])]
      refine zk ?_
      try dsimp only [lp82_7, zz, zo, Tryd.f82]
      simp only [bW, if_true, Nat.reduceEqDiff, if_false]
      repeat' first
        | (intro hb; first | cases hb | skip)
        | ((first | apply z8 | apply ze)
           · rfl
           · simp (disch := assumption) only [go_sem, Nat.reduceEqDiff, Nat.reduceAdd, bP, zf, Nat.reduceLeDiff, Nat.reduceLT, Nat.reduceMul, List.length_append, decide_eq_true_eq, z9, z6, Int.reduceToNat, Int.reduceLE, Int.reduceLT, Int.reduceBNe, Int.reduceBEq, hlm', hx, hnm, hlt', hw3, hsh, hs77]
             rfl
           · simp only [go_sem, Nat.reduceLT, Nat.reduceEqDiff]
             rfl
           · rfl
           first
           | (apply zd
              · simp only [z5, z0, Nat.reduceLT, decide_true, cond_true, ins]
                rfl
              · simp only [z5, z0, Nat.reduceLT, decide_true, cond_true, ins]
                rfl)
           | (apply zh
              · simp only [z5, z0, Nat.reduceLT, decide_true, cond_true, ins]
                rfl))
        | ((first | apply zb | apply zc)
           · rfl
           · simp only [z5, z0, Nat.reduceLT, decide_true, cond_true, ins]
             rfl)
        | (apply za
           · simp only [go_sem, Nat.reduceEqDiff])
        | (apply z7
           · simp only [go_sem, Nat.reduceEqDiff])
        | (apply zg
           · kernel_rfl
           · kernel_rfl)
        | (simp only [bW, if_true, Nat.reduceEqDiff, if_false])
      exact hk _ rfl
theorem t82 (p : Paper) (ax : Int) (nl : Bool) (ss : List Int) (hwf : p.wf) (sz : Nat) (hsz : nl = false → sz = 1) (hnl : nl = true → ss = []) (hlen : ss.length ≤ 9223372036854775807) : (lim cfg).pure 82 [zt p, I ax, .sl nl (ss.map I) sz none] = some (I (zO p ax ss)) := by
  have h28 := t28 p hwf
  unfold zO
  unfold check at h28
  have h77 : (lim cfg).pure 77 [I ax, I 0, I 1] = some (B (isAxis ax)) := by
    rw [t77]; unfold isAxis; congr 3; rw [Bool.eq_iff_iff]; simp; omega
  cases hok : zn p with
  | false =>
    rw [hok] at h28
    simp only [Bool.false_eq_true, if_false] at h28 ⊢
    refine zm (zj 82) cfn82 rfl (n := 35) rfl ?_
    simp only [bW, if_true, Nat.reduceEqDiff, if_false, zl]
    repeat' first
      | (intro hb; first | cases hb | skip)
      | ((first | apply z8 | apply ze)
         · rfl
         · simp (disch := assumption) only [go_sem, Nat.reduceEqDiff, Nat.reduceAdd, bP, zf, Nat.reduceLeDiff, Nat.reduceLT, Nat.reduceMul, List.length_append, decide_eq_true_eq, z9, z6, Int.reduceToNat, Int.reduceLE, Int.reduceLT, Int.reduceBNe, Int.reduceBEq, h28]
           rfl
         · simp only [go_sem, Nat.reduceLT, Nat.reduceEqDiff]
           rfl
         · rfl
         first
         | (apply zd
            · simp only [z5, z0, Nat.reduceLT, decide_true, cond_true, ins]
              rfl
            · simp only [z5, z0, Nat.reduceLT, decide_true, cond_true, ins]
              rfl)
         | (apply zh
            · simp only [z5, z0, Nat.reduceLT, decide_true, cond_true, ins]
              rfl))
      | ((first | apply zb | apply zc)
         · rfl
         · simp only [z5, z0, Nat.reduceLT, decide_true, cond_true, ins]
           rfl)
      | (apply za
         · simp only [go_sem, Nat.reduceEqDiff])
      | (apply z7
         · simp only [go_sem, Nat.reduceEqDiff])
      | (apply zg
         · kernel_rfl
         · kernel_rfl)
      | (simp only [bW, if_true, Nat.reduceEqDiff, if_false])
    all_goals try simp only [go_sem, Nat.reduceEqDiff, bP, Nat.reduceAdd, Nat.reduceLeDiff, List.length_map, Tryd.f82]
    all_goals first | done | rfl | (simp_all []; done) | trace_state
  | true =>
    rw [hok] at h28
    simp only [if_true] at h28 ⊢
    obtain ⟨o1, o2, -⟩ := zC hok
    have hsh : IntKind.i64.wrap (p.sheets - 1) = p.sheets - 1 := wrap_i64 (by omega) (by omega)
    have h80 := t80 p hwf hok
    cases hp : possibleF p with
    | false =>
      rw [hp] at h80
      simp only [Bool.false_eq_true, if_false]
      refine zm (zj 82) cfn82 rfl (n := 35) rfl ?_
      simp only [bW, if_true, Nat.reduceEqDiff, if_false, zl]
      repeat' first
        | (intro hb; first | cases hb | skip)
        | ((first | apply z8 | apply ze)
           · rfl
           · simp (disch := assumption) only [go_sem, Nat.reduceEqDiff, Nat.reduceAdd, bP, zf, Nat.reduceLeDiff, Nat.reduceLT, Nat.reduceMul, List.length_append, decide_eq_true_eq, z9, z6, Int.reduceToNat, Int.reduceLE, Int.reduceLT, Int.reduceBNe, Int.reduceBEq, h28, h80]
             rfl
           · simp only [go_sem, Nat.reduceLT, Nat.reduceEqDiff]
             rfl
           · rfl
           first
           | (apply zd
              · simp only [z5, z0, Nat.reduceLT, decide_true, cond_true, ins]
                rfl
              · simp only [z5, z0, Nat.reduceLT, decide_true, cond_true, ins]
                rfl)
           | (apply zh
              · simp only [z5, z0, Nat.reduceLT, decide_true, cond_true, ins]
                rfl))
        | ((first | apply zb | apply zc)
           · rfl
           · simp only [z5, z0, Nat.reduceLT, decide_true, cond_true, ins]
             rfl)
        | (apply za
           · simp only [go_sem, Nat.reduceEqDiff])
        | (apply z7
           · simp only [go_sem, Nat.reduceEqDiff])
        | (apply zg
           · kernel_rfl
           · kernel_rfl)
        | (simp only [bW, if_true, Nat.reduceEqDiff, if_false])
      all_goals try simp only [go_sem, Nat.reduceEqDiff, bP, Nat.reduceAdd, Nat.reduceLeDiff, List.length_map, Tryd.f82]
      all_goals first | done | rfl | (simp_all []; done) | trace_state
    | true =>
      rw [hp] at h80
      simp only [if_true]
      refine zm (zj 82) cfn82 rfl (n := 35) rfl ?_
      generalize hF : finP cfg Tryd.f82 = F
      simp only [bW, if_true, Nat.reduceEqDiff, if_false, zl]
      have hend : ∀ (v : Int) st, get st.tmps 6 = I v → F .ret st = some (I v) := by
        intro v st hd
        subst hF
        simp only [go_sem, Nat.reduceEqDiff, bP, Nat.reduceAdd, Nat.reduceLeDiff, List.length_map, Tryd.f82, hd]
      repeat' first
        | (intro hb; first | cases hb | skip)
        | ((first | apply z8 | apply ze)
           · rfl
           · simp (disch := assumption) only [go_sem, Nat.reduceEqDiff, Nat.reduceAdd, bP, zf, Nat.reduceLeDiff, Nat.reduceLT, Nat.reduceMul, List.length_append, decide_eq_true_eq, z9, z6, Int.reduceToNat, Int.reduceLE, Int.reduceLT, Int.reduceBNe, Int.reduceBEq, h28, h80]
             rfl
           · simp only [go_sem, Nat.reduceLT, Nat.reduceEqDiff]
             rfl
           · rfl
           first
           | (apply zd
              · simp only [z5, z0, Nat.reduceLT, decide_true, cond_true, ins]
                rfl
              · simp only [z5, z0, Nat.reduceLT, decide_true, cond_true, ins]
                rfl)
           | (apply zh
              · simp only [z5, z0, Nat.reduceLT, decide_true, cond_true, ins]
                rfl))
        | ((first | apply zb | apply zc)
           · rfl
           · simp only [z5, z0, Nat.reduceLT, decide_true, cond_true, ins]
             rfl)
        | (apply za
           · simp only [go_sem, Nat.reduceEqDiff])
        | (apply z7
           · simp only [go_sem, Nat.reduceEqDiff])
        | (apply zg
           · kernel_rfl
           · kernel_rfl)
        | (simp only [bW, if_true, Nat.reduceEqDiff, if_false])
      refine zS (st1 := ⟨35, [(1, I ax), (2, .sl nl (ss.map I) sz none), (3, .lref 0 0 3 0), (8, I (0 : Nat))], [(0, ⟨[zt p], 3, false⟩)], 1, 0⟩) lk82_7 (by kernel_rfl) (L82_7 p ax nl ss _ _ sz hsz hnl hlen hsh (fun st hd => ?_) ss 0 rfl (Nat.zero_le _) (fun ha => ?_) (fun ha => ?_))
      · simp only [bW, if_true, Nat.reduceEqDiff, if_false]
        exact hend 1 st hd
      · cases hax : isAxis ax with
        | true =>
          rw [hax] at h77
          rw [show namedF p ax ss = 0 by simp [namedF, ha, hax]]
          simp only [bW, if_true, Nat.reduceEqDiff, if_false]
          repeat' first
            | (intro hb; first | cases hb | skip)
            | ((first | apply z8 | apply ze)
               · rfl
               · simp (disch := assumption) only [go_sem, Nat.reduceEqDiff, Nat.reduceAdd, bP, zf, Nat.reduceLeDiff, Nat.reduceLT, Nat.reduceMul, List.length_append, decide_eq_true_eq, z9, z6, Int.reduceToNat, Int.reduceLE, Int.reduceLT, Int.reduceBNe, Int.reduceBEq, h77]
                 rfl
               · simp only [go_sem, Nat.reduceLT, Nat.reduceEqDiff]
                 rfl
               · rfl
               first
               | (apply zd
                  · simp only [z5, z0, Nat.reduceLT, decide_true, cond_true, ins]
                    rfl
                  · simp only [z5, z0, Nat.reduceLT, decide_true, cond_true, ins]
                    rfl)
               | (apply zh
                  · simp only [z5, z0, Nat.reduceLT, decide_true, cond_true, ins]
                    rfl))
            | ((first | apply zb | apply zc)
               · rfl
               · simp only [z5, z0, Nat.reduceLT, decide_true, cond_true, ins]
                 rfl)
            | (apply za
               · simp only [go_sem, Nat.reduceEqDiff])
            | (apply z7
               · simp only [go_sem, Nat.reduceEqDiff])
            | (apply zg
               · kernel_rfl
               · kernel_rfl)
            | (simp only [bW, if_true, Nat.reduceEqDiff, if_false])
          exact hend 0 _ rfl
        | false =>
          rw [hax] at h77
          rw [show namedF p ax ss = 1 by simp [namedF, ha, hax]]
          simp only [bW, if_true, Nat.reduceEqDiff, if_false]
          repeat' first
            | (intro hb; first | cases hb | skip)
            | ((first | apply z8 | apply ze)
               · rfl
               · simp (disch := assumption) only [go_sem, Nat.reduceEqDiff, Nat.reduceAdd, bP, zf, Nat.reduceLeDiff, Nat.reduceLT, Nat.reduceMul, List.length_append, decide_eq_true_eq, z9, z6, Int.reduceToNat, Int.reduceLE, Int.reduceLT, Int.reduceBNe, Int.reduceBEq, h77]
                 rfl
               · simp only [go_sem, Nat.reduceLT, Nat.reduceEqDiff]
                 rfl
               · rfl
               first
               | (apply zd
                  · simp only [z5, z0, Nat.reduceLT, decide_true, cond_true, ins]
                    rfl
                  · simp only [z5, z0, Nat.reduceLT, decide_true, cond_true, ins]
                    rfl)
               | (apply zh
                  · simp only [z5, z0, Nat.reduceLT, decide_true, cond_true, ins]
                    rfl))
            | ((first | apply zb | apply zc)
               · rfl
               · simp only [z5, z0, Nat.reduceLT, decide_true, cond_true, ins]
                 rfl)
            | (apply za
               · simp only [go_sem, Nat.reduceEqDiff])
            | (apply z7
               · simp only [go_sem, Nat.reduceEqDiff])
            | (apply zg
               · kernel_rfl
               · kernel_rfl)
            | (simp only [bW, if_true, Nat.reduceEqDiff, if_false])
          exact hend 1 _ rfl
      · rw [show namedF p ax ss = 1 by simp [namedF, ha]]

end Go.VS
namespace Go.VS
open Go Go.Proofs
set_option maxHeartbeats 0
set_option linter.unusedSimpArgs false

noncomputable def lp34_6 : Code := zz [1, 1, 1, 0, 1, 0, 0] (zo Tryd.f34)
theorem lk34_6 : cfg.keep 34 (zr lp34_6) = [1, 6, 7, 8] := by kernel_rfl

noncomputable def lp35_4 : Code := zz [1, 1, 0, 1, 0, 0] (zo Tryd.f35)
theorem lk35_4 : cfg.keep 35 (zr lp35_4) = [0, 1, 5] := by kernel_rfl

theorem t31 (p : Paper) (hwf : p.wf) : (lim cfg).pure 31 [zt p] = some (if zn p then .tup [B (possibleF p), I 0] else .tup [B false, I 30]) := by
  have h28 := t28 p hwf
  unfold check at h28
  cases hok : zn p with
  | false =>
    rw [hok] at h28
    simp only [Bool.false_eq_true, if_false] at h28 ⊢
    refine zm (zj 31) cfn31 rfl (n := 12) rfl ?_
    simp only [bW, if_true, Nat.reduceEqDiff, if_false, zl]
    repeat' first
      | (intro hb; first | cases hb | skip)
      | ((first | apply z8 | apply ze)
         · rfl
         · simp (disch := assumption) only [go_sem, Nat.reduceEqDiff, Nat.reduceAdd, bP, zf, Nat.reduceLeDiff, Nat.reduceLT, Nat.reduceMul, List.length_append, decide_eq_true_eq, z9, z6, Int.reduceToNat, Int.reduceLE, Int.reduceLT, Int.reduceBNe, Int.reduceBEq, h28]
           rfl
         · simp only [go_sem, Nat.reduceLT, Nat.reduceEqDiff]
           rfl
         · rfl
         first
         | (apply zd
            · simp only [z5, z0, Nat.reduceLT, decide_true, cond_true, ins]
              rfl
            · simp only [z5, z0, Nat.reduceLT, decide_true, cond_true, ins]
              rfl)
         | (apply zh
            · simp only [z5, z0, Nat.reduceLT, decide_true, cond_true, ins]
              rfl))
      | ((first | apply zb | apply zc)
         · rfl
         · simp only [z5, z0, Nat.reduceLT, decide_true, cond_true, ins]
           rfl)
      | (apply za
         · simp only [go_sem, Nat.reduceEqDiff])
      | (apply z7
         · simp only [go_sem, Nat.reduceEqDiff])
      | (apply zg
         · kernel_rfl
         · kernel_rfl)
      | (simp only [bW, if_true, Nat.reduceEqDiff, if_false])
    all_goals try simp only [go_sem, Nat.reduceEqDiff, bP, Nat.reduceAdd, Nat.reduceLeDiff, List.length_map, Tryd.f31]
    all_goals first | done | rfl | (simp_all []; done) | trace_state
  | true =>
    rw [hok] at h28
    simp only [if_true] at h28 ⊢
    have h80 := t80 p hwf hok
    refine zm (zj 31) cfn31 rfl (n := 12) rfl ?_
    simp only [bW, if_true, Nat.reduceEqDiff, if_false, zl]
    repeat' first
      | (intro hb; first | cases hb | skip)
      | ((first | apply z8 | apply ze)
         · rfl
         · simp (disch := assumption) only [go_sem, Nat.reduceEqDiff, Nat.reduceAdd, bP, zf, Nat.reduceLeDiff, Nat.reduceLT, Nat.reduceMul, List.length_append, decide_eq_true_eq, z9, z6, Int.reduceToNat, Int.reduceLE, Int.reduceLT, Int.reduceBNe, Int.reduceBEq, h28, h80]
           rfl
         · simp only [go_sem, Nat.reduceLT, Nat.reduceEqDiff]
           rfl
         · rfl
         first
         | (apply zd
            · simp only [z5, z0, Nat.reduceLT, decide_true, cond_true, ins]
              rfl
            · simp only [z5, z0, Nat.reduceLT, decide_true, cond_true, ins]
              rfl)
         | (apply zh
            · simp only [z5, z0, Nat.reduceLT, decide_true, cond_true, ins]
              rfl))
      | ((first | apply zb | apply zc)
         · rfl
         · simp only [z5, z0, Nat.reduceLT, decide_true, cond_true, ins]
           rfl)
      | (apply za
         · simp only [go_sem, Nat.reduceEqDiff])
      | (apply z7
         · simp only [go_sem, Nat.reduceEqDiff])
      | (apply zg
         · kernel_rfl
         · kernel_rfl)
      | (simp only [bW, if_true, Nat.reduceEqDiff, if_false])
    all_goals try simp only [go_sem, Nat.reduceEqDiff, bP, Nat.reduceAdd, Nat.reduceLeDiff, List.length_map, Tryd.f31]
    all_goals first | done | rfl | (simp_all []; done) | trace_state

theorem t83 (p : Paper) (s ax : Int) (hwf : p.wf) (hok : zn p = true) (hc : clashA p ax = none) (hs : zw p s = true) : (lim cfg).pure 83 [zt p, I s, I ax] = some (.tup [.agg [I (loF p s ax).n, I (loF p s ax).d], .agg [I (hiF p s ax).n, I (hiF p s ax).d]]) := by
  obtain ⟨u, hu, u1, u2⟩ := sheet_pos hok
  obtain ⟨i, rfl, hi, _⟩ := sheet_nat hs
  have hiu : i < u := by omega
  rw [net_lo hok hc hu hiu, net_hi hok hc hu hiu]
  have h84 := t84 p ax hwf hok
  generalize netR p ax = c at *
  have hi5 : i < 5 := by omega
  have hu5 : u < 5 := by omega
  obtain ⟨-, -, g1⟩ := cN_get (c := c) hu5 hi5
  obtain ⟨-, -, g2⟩ := cN_get (c := c) hi5 hu5
  have k1 : (u * 10 + i * 2 + 2 ≤ 50) = True := by simp; omega
  have k2 : (i * 10 + u * 2 + 2 ≤ 50) = True := by simp; omega
  have hi5' : (i < 5) = True := by simp [hi5]
  have hu5' : (u < 5) = True := by simp [hu5]
  simp only [zt, hu] at h84
  refine zm (zj 83) cfn83 rfl (n := 25) rfl ?_
  simp only [bW, if_true, Nat.reduceEqDiff, if_false, zl]
  repeat' first
    | (intro hb; first | cases hb | skip)
    | ((first | apply z8 | apply ze)
       · rfl
       · simp (disch := assumption) only [go_sem, Nat.reduceEqDiff, Nat.reduceAdd, bP, zf, Nat.reduceLeDiff, Nat.reduceLT, Nat.reduceMul, List.length_append, decide_eq_true_eq, z9, z6, Int.reduceToNat, Int.reduceLE, Int.reduceLT, Int.reduceBNe, Int.reduceBEq, h84, hu, t98, g1, g2, k1, k2, hi5', hu5', zN_drop, cN_len, cN_one, cN_take, zN_len, zN_one]
         rfl
       · simp only [go_sem, Nat.reduceLT, Nat.reduceEqDiff]
         rfl
       · rfl
       first
       | (apply zd
          · simp only [z5, z0, Nat.reduceLT, decide_true, cond_true, ins]
            rfl
          · simp only [z5, z0, Nat.reduceLT, decide_true, cond_true, ins]
            rfl)
       | (apply zh
          · simp only [z5, z0, Nat.reduceLT, decide_true, cond_true, ins]
            rfl))
    | ((first | apply zb | apply zc)
       · rfl
       · simp only [z5, z0, Nat.reduceLT, decide_true, cond_true, ins]
         rfl)
    | (apply za
       · simp only [go_sem, Nat.reduceEqDiff])
    | (apply z7
       · simp only [go_sem, Nat.reduceEqDiff])
    | (apply zg
       · kernel_rfl
       · kernel_rfl)
    | (simp only [bW, if_true, Nat.reduceEqDiff, if_false])
  all_goals try simp only [go_sem, Nat.reduceEqDiff, bP, Nat.reduceAdd, Nat.reduceLeDiff, List.length_map, Tryd.f83]
  all_goals first | done | rfl | (simp_all []; done) | trace_state

theorem t36 (p : Paper) (s ax : Int) (hwf : p.wf) : (lim cfg).pure 36 [zt p, I s, I ax] = some (if zO p ax [s] = 0 then .tup [.agg [I (loF p s ax).n, I (loF p s ax).d], .agg [I (hiF p s ax).n, I (hiF p s ax).d], I 0] else .tup [.agg [I 0, I 0], .agg [I 0, I 0], I (zO p ax [s])]) := by
  have h82 := t82 p ax false [s] hwf 1 (by simp) (by simp) (by simp)
  simp only [List.map_cons, List.map_nil] at h82
  by_cases hk : zO p ax [s] = 0
  · rw [if_pos hk]
    rw [hk] at h82
    obtain ⟨hok, hp, hs, hax⟩ := known_zero.1 hk
    simp at hs
    have h83 := t83 p s ax hwf hok (poss_none hp hax) hs
    refine zm (zj 36) cfn36 rfl (n := 31) rfl ?_
    simp only [bW, if_true, Nat.reduceEqDiff, if_false, zl]
    repeat' first
      | (intro hb; first | cases hb | skip)
      | ((first | apply z8 | apply ze)
         · rfl
         · simp (disch := assumption) only [go_sem, Nat.reduceEqDiff, Nat.reduceAdd, bP, zf, Nat.reduceLeDiff, Nat.reduceLT, Nat.reduceMul, List.length_append, decide_eq_true_eq, z9, z6, Int.reduceToNat, Int.reduceLE, Int.reduceLT, Int.reduceBNe, Int.reduceBEq, h82, h83]
           rfl
         · simp only [go_sem, Nat.reduceLT, Nat.reduceEqDiff]
           rfl
         · rfl
         first
         | (apply zd
            · simp only [z5, z0, Nat.reduceLT, decide_true, cond_true, ins]
              rfl
            · simp only [z5, z0, Nat.reduceLT, decide_true, cond_true, ins]
              rfl)
         | (apply zh
            · simp only [z5, z0, Nat.reduceLT, decide_true, cond_true, ins]
              rfl))
      | ((first | apply zb | apply zc)
         · rfl
         · simp only [z5, z0, Nat.reduceLT, decide_true, cond_true, ins]
           rfl)
      | (apply za
         · simp only [go_sem, Nat.reduceEqDiff])
      | (apply z7
         · simp only [go_sem, Nat.reduceEqDiff])
      | (apply zg
         · kernel_rfl
         · kernel_rfl)
      | (simp only [bW, if_true, Nat.reduceEqDiff, if_false])
    all_goals try simp only [go_sem, Nat.reduceEqDiff, bP, Nat.reduceAdd, Nat.reduceLeDiff, List.length_map, Tryd.f36]
    all_goals first | done | rfl | (simp_all []; done) | trace_state
  · rw [if_neg hk]
    have hne : (zO p ax [s] != 0) = true := by simp [hk]
    refine zm (zj 36) cfn36 rfl (n := 31) rfl ?_
    simp only [bW, if_true, Nat.reduceEqDiff, if_false, zl]
    repeat' first
      | (intro hb; first | cases hb | skip)
      | ((first | apply z8 | apply ze)
         · rfl
         · simp (disch := assumption) only [go_sem, Nat.reduceEqDiff, Nat.reduceAdd, bP, zf, Nat.reduceLeDiff, Nat.reduceLT, Nat.reduceMul, List.length_append, decide_eq_true_eq, z9, z6, Int.reduceToNat, Int.reduceLE, Int.reduceLT, Int.reduceBNe, Int.reduceBEq, h82, hne]
           rfl
         · simp only [go_sem, Nat.reduceLT, Nat.reduceEqDiff]
           rfl
         · rfl
         first
         | (apply zd
            · simp only [z5, z0, Nat.reduceLT, decide_true, cond_true, ins]
              rfl
            · simp only [z5, z0, Nat.reduceLT, decide_true, cond_true, ins]
              rfl)
         | (apply zh
            · simp only [z5, z0, Nat.reduceLT, decide_true, cond_true, ins]
              rfl))
      | ((first | apply zb | apply zc)
         · rfl
         · simp only [z5, z0, Nat.reduceLT, decide_true, cond_true, ins]
           rfl)
      | (apply za
         · simp only [go_sem, Nat.reduceEqDiff])
      | (apply z7
         · simp only [go_sem, Nat.reduceEqDiff])
      | (apply zg
         · kernel_rfl
         · kernel_rfl)
      | (simp only [bW, if_true, Nat.reduceEqDiff, if_false])
    all_goals try simp only [go_sem, Nat.reduceEqDiff, bP, Nat.reduceAdd, Nat.reduceLeDiff, List.length_map, Tryd.f36]
    all_goals first | done | rfl | (simp_all []; done) | trace_state

theorem t37 (p : Paper) (a b ax : Int) (hwf : p.wf) : (lim cfg).pure 37 [zt p, I a, I b, I ax] = some (if zO p ax [a, b] = 0 then .tup [.agg [I (betwF p a b ax).n, I (betwF p a b ax).d], I 0] else .tup [.agg [I 0, I 0], I (zO p ax [a, b])]) := by
  have h82 := t82 p ax false [a, b] hwf 1 (by simp) (by simp) (by simp)
  simp only [List.map_cons, List.map_nil] at h82
  by_cases hk : zO p ax [a, b] = 0
  · rw [if_pos hk]
    rw [hk] at h82
    obtain ⟨hok, hp, hs, hax⟩ := known_zero.1 hk
    simp only [List.all_cons, List.all_nil, Bool.and_true, Bool.and_eq_true] at hs
    have h84 := t84 p ax hwf hok
    obtain ⟨u, hu, u1, u2⟩ := sheet_pos hok
    obtain ⟨i, rfl, hi, _⟩ := sheet_nat hs.1
    obtain ⟨j, rfl, hj, _⟩ := sheet_nat hs.2
    rw [net_betw hok (poss_none hp hax) hu (show i < u by omega) (show j < u by omega)]
    generalize netR p ax = c at *
    have hi5 : i < 5 := by omega
    have hj5 : j < 5 := by omega
    obtain ⟨-, -, g1⟩ := cN_get (c := c) hi5 hj5
    have k1 : (i * 10 + 10 ≤ 50) = True := by simp; omega
    have k2 : (j * 2 + 2 ≤ 10) = True := by simp; omega
    have hi5' : (i < 5) = True := by simp [hi5]
    have hj5' : (j < 5) = True := by simp [hj5]
    have g3 : (List.take 10 (List.drop (i * 10) (cN c))).length = 10 := by simp [cN_len]; omega
    have g2 : List.take 2 (List.drop (j * 2) (List.take 10 (List.drop (i * 10) (cN c)))) = [I (c i j).n, I (c i j).d] := by
      rw [List.drop_take, List.take_take, List.drop_drop, show min 2 (10 - j * 2) = 2 by omega]; exact g1
    refine zm (zj 37) cfn37 rfl (n := 28) rfl ?_
    simp only [bW, if_true, Nat.reduceEqDiff, if_false, zl]
    repeat' first
      | (intro hb; first | cases hb | skip)
      | ((first | apply z8 | apply ze)
         · rfl
         · simp (disch := assumption) only [go_sem, Nat.reduceEqDiff, Nat.reduceAdd, bP, zf, Nat.reduceLeDiff, Nat.reduceLT, Nat.reduceMul, List.length_append, decide_eq_true_eq, z9, z6, Int.reduceToNat, Int.reduceLE, Int.reduceLT, Int.reduceBNe, Int.reduceBEq, h82, h84, g2, g3, k1, k2, hi5', hj5', cN_len, cN_one, cN_take, zN_len, zN_one, zN_drop]
           rfl
         · simp only [go_sem, Nat.reduceLT, Nat.reduceEqDiff]
           rfl
         · rfl
         first
         | (apply zd
            · simp only [z5, z0, Nat.reduceLT, decide_true, cond_true, ins]
              rfl
            · simp only [z5, z0, Nat.reduceLT, decide_true, cond_true, ins]
              rfl)
         | (apply zh
            · simp only [z5, z0, Nat.reduceLT, decide_true, cond_true, ins]
              rfl))
      | ((first | apply zb | apply zc)
         · rfl
         · simp only [z5, z0, Nat.reduceLT, decide_true, cond_true, ins]
           rfl)
      | (apply za
         · simp only [go_sem, Nat.reduceEqDiff])
      | (apply z7
         · simp only [go_sem, Nat.reduceEqDiff])
      | (apply zg
         · kernel_rfl
         · kernel_rfl)
      | (simp only [bW, if_true, Nat.reduceEqDiff, if_false])
    all_goals try simp only [go_sem, Nat.reduceEqDiff, bP, Nat.reduceAdd, Nat.reduceLeDiff, List.length_map, Tryd.f37]
    all_goals first | done | rfl | (simp_all []; done) | trace_state
  · rw [if_neg hk]
    have hne : (zO p ax [a, b] != 0) = true := by simp [hk]
    refine zm (zj 37) cfn37 rfl (n := 28) rfl ?_
    simp only [bW, if_true, Nat.reduceEqDiff, if_false, zl]
    repeat' first
      | (intro hb; first | cases hb | skip)
      | ((first | apply z8 | apply ze)
         · rfl
         · simp (disch := assumption) only [go_sem, Nat.reduceEqDiff, Nat.reduceAdd, bP, zf, Nat.reduceLeDiff, Nat.reduceLT, Nat.reduceMul, List.length_append, decide_eq_true_eq, z9, z6, Int.reduceToNat, Int.reduceLE, Int.reduceLT, Int.reduceBNe, Int.reduceBEq, h82, hne]
           rfl
         · simp only [go_sem, Nat.reduceLT, Nat.reduceEqDiff]
           rfl
         · rfl
         first
         | (apply zd
            · simp only [z5, z0, Nat.reduceLT, decide_true, cond_true, ins]
              rfl
            · simp only [z5, z0, Nat.reduceLT, decide_true, cond_true, ins]
              rfl)
         | (apply zh
            · simp only [z5, z0, Nat.reduceLT, decide_true, cond_true, ins]
              rfl))
      | ((first | apply zb | apply zc)
         · rfl
         · simp only [z5, z0, Nat.reduceLT, decide_true, cond_true, ins]
           rfl)
      | (apply za
         · simp only [go_sem, Nat.reduceEqDiff])
      | (apply z7
         · simp only [go_sem, Nat.reduceEqDiff])
      | (apply zg
         · kernel_rfl
         · kernel_rfl)
      | (simp only [bW, if_true, Nat.reduceEqDiff, if_false])
    all_goals try simp only [go_sem, Nat.reduceEqDiff, bP, Nat.reduceAdd, Nat.reduceLeDiff, List.length_map, Tryd.f37]
    all_goals first | done | rfl | (simp_all []; done) | trace_state

theorem L35_4 {F : Exit → St → Option D} (l : List F4) (k : List Kt) (x : D) (hl : l.length ≤ 1000) (h : zB cfg (lim cfg) 35 F k (.exit 0) ⟨26, [(14, B false), (13, I l.length), (12, .sl false (l.map zP) 4 none), (11, I (l.length : Nat)), (0, .sl false (l.map zP) 4 none), (1, .sl false (l.map zP) 4 none), (5, I (l.length : Nat))], [], 0, 0⟩ = some x) : ∀ (rest : List F4) (i : Nat), l.drop i = rest → i ≤ l.length → EvL cfg (lim cfg) 35 F lp35_4 k ⟨26, [(0, .sl false (l.map zP) 4 none), (1, .sl false (l.map zP) 4 none), (5, I (i : Nat))], [], 0, 0⟩ = some x := by
  intro rest
  induction rest with
  | nil =>
    intro i hd hi
    have hi' : i = l.length := by
      have := List.drop_eq_nil_iff.1 hd
      omega
    subst hi'
    refine zk ?_
    try dsimp only [lp35_4, zz, zo, Tryd.f35]
    simp only [bW, if_true, Nat.reduceEqDiff, if_false]
    repeat' first
      | (intro hb; first | cases hb | skip)
      | ((first | apply z8 | apply ze)
         · rfl
         · simp (disch := assumption) only [go_sem, Nat.reduceEqDiff, Nat.reduceAdd, bP, zf, Nat.reduceLeDiff, Nat.reduceLT, Nat.reduceMul, List.length_append, decide_eq_true_eq, z9, z6, Int.reduceToNat, Int.reduceLE, Int.reduceLT, Int.reduceBNe, Int.reduceBEq, List.length_map, Int.lt_irrefl]
           rfl
         · simp only [go_sem, Nat.reduceLT, Nat.reduceEqDiff]
           rfl
         · rfl
         first
         | (apply zd
            · simp only [z5, z0, Nat.reduceLT, decide_true, cond_true, ins]
              rfl
            · simp only [z5, z0, Nat.reduceLT, decide_true, cond_true, ins]
              rfl)
         | (apply zh
            · simp only [z5, z0, Nat.reduceLT, decide_true, cond_true, ins]
              rfl))
      | ((first | apply zb | apply zc)
         · rfl
         · simp only [z5, z0, Nat.reduceLT, decide_true, cond_true, ins]
           rfl)
      | (apply za
         · simp only [go_sem, Nat.reduceEqDiff])
      | (apply z7
         · simp only [go_sem, Nat.reduceEqDiff])
      | (apply zg
         · kernel_rfl
         · kernel_rfl)
      | (simp only [bW, if_true, Nat.reduceEqDiff, if_false])
    exact h
  | cons m rest ih =>
    intro i hd hi
    have hlt : i < l.length := by
      rcases Nat.lt_or_ge i l.length with h | h
      · exact h
      · rw [List.drop_eq_nil_of_le h] at hd; cases hd
    have hm : l[i]? = some m := by rw [← List.head?_drop, hd]; rfl
    have hx : (l.map zP)[i]? = some (.agg [I m.xn, I m.xd, I m.yn, I m.yd]) := by rw [List.getElem?_map, hm]; rfl
    have hlt' : (i : Int) < (l.length : Int) := by omega
    have hw3 : IntKind.i64.wrap ((i : Int) + 1) = ((i + 1 : Nat) : Int) := by rw [wrap_i64 (by omega) (by omega)]; omega
    refine zk ?_
    try dsimp only [lp35_4, zz, zo, Tryd.f35]
    simp only [bW, if_true, Nat.reduceEqDiff, if_false]
    repeat' first
      | (intro hb; first | cases hb | skip)
      | ((first | apply z8 | apply ze)
         · rfl
         · simp (disch := assumption) only [go_sem, Nat.reduceEqDiff, Nat.reduceAdd, bP, zf, Nat.reduceLeDiff, Nat.reduceLT, Nat.reduceMul, List.length_append, decide_eq_true_eq, z9, z6, Int.reduceToNat, Int.reduceLE, Int.reduceLT, Int.reduceBNe, Int.reduceBEq, List.length_map, hx, hlt', hw3, eqElems, beq_self_eq_true]
           rfl
         · simp only [go_sem, Nat.reduceLT, Nat.reduceEqDiff]
           rfl
         · rfl
         first
         | (apply zd
            · simp only [z5, z0, Nat.reduceLT, decide_true, cond_true, ins]
              rfl
            · simp only [z5, z0, Nat.reduceLT, decide_true, cond_true, ins]
              rfl)
         | (apply zh
            · simp only [z5, z0, Nat.reduceLT, decide_true, cond_true, ins]
              rfl))
      | ((first | apply zb | apply zc)
         · rfl
         · simp only [z5, z0, Nat.reduceLT, decide_true, cond_true, ins]
           rfl)
      | (apply za
         · simp only [go_sem, Nat.reduceEqDiff])
      | (apply z7
         · simp only [go_sem, Nat.reduceEqDiff])
      | (apply zg
         · kernel_rfl
         · kernel_rfl)
      | (simp only [bW, if_true, Nat.reduceEqDiff, if_false])
    exact zu (st1 := ⟨26, [(0, .sl false (l.map zP) 4 none), (1, .sl false (l.map zP) 4 none), (5, I (i + 1 : Nat))], [], 0, 0⟩) lk35_4 (by kernel_rfl) (ih (i + 1) (by rw [← List.drop_drop, hd]; rfl) hlt)
theorem t35 (l : List F4) (hl : l.length ≤ 1000) : (lim cfg).pure 35 [.sl false (l.map zP) 4 none, .sl false (l.map zP) 4 none] = some (B true) := by
  refine zm (zj 35) cfn35 rfl (n := 26) rfl ?_
  generalize hF : finP cfg Tryd.f35 = F
  simp only [bW, if_true, Nat.reduceEqDiff, if_false, zl]
  repeat' first
    | (intro hb; first | cases hb | skip)
    | ((first | apply z8 | apply ze)
       · rfl
       · simp (disch := assumption) only [go_sem, Nat.reduceEqDiff, Nat.reduceAdd, bP, zf, Nat.reduceLeDiff, Nat.reduceLT, Nat.reduceMul, List.length_append, decide_eq_true_eq, z9, z6, Int.reduceToNat, Int.reduceLE, Int.reduceLT, Int.reduceBNe, Int.reduceBEq, List.length_map, bne_self_eq_false]
         rfl
       · simp only [go_sem, Nat.reduceLT, Nat.reduceEqDiff]
         rfl
       · rfl
       first
       | (apply zd
          · simp only [z5, z0, Nat.reduceLT, decide_true, cond_true, ins]
            rfl
          · simp only [z5, z0, Nat.reduceLT, decide_true, cond_true, ins]
            rfl)
       | (apply zh
          · simp only [z5, z0, Nat.reduceLT, decide_true, cond_true, ins]
            rfl))
    | ((first | apply zb | apply zc)
       · rfl
       · simp only [z5, z0, Nat.reduceLT, decide_true, cond_true, ins]
         rfl)
    | (apply za
       · simp only [go_sem, Nat.reduceEqDiff])
    | (apply z7
       · simp only [go_sem, Nat.reduceEqDiff])
    | (apply zg
       · kernel_rfl
       · kernel_rfl)
    | (simp only [bW, if_true, Nat.reduceEqDiff, if_false])
  refine zS (st1 := ⟨26, [(0, .sl false (l.map zP) 4 none), (1, .sl false (l.map zP) 4 none), (5, I (0 : Nat))], [], 0, 0⟩) lk35_4 (by kernel_rfl) (L35_4 l _ _ hl ?_ l 0 rfl (Nat.zero_le _))
  simp only [bW, if_true, Nat.reduceEqDiff, if_false]
  repeat' first
    | (intro hb; first | cases hb | skip)
    | ((first | apply z8 | apply ze)
       · rfl
       · simp (disch := assumption) only [go_sem, Nat.reduceEqDiff, Nat.reduceAdd, bP, zf, Nat.reduceLeDiff, Nat.reduceLT, Nat.reduceMul, List.length_append, decide_eq_true_eq, z9, z6, Int.reduceToNat, Int.reduceLE, Int.reduceLT, Int.reduceBNe, Int.reduceBEq]
         rfl
       · simp only [go_sem, Nat.reduceLT, Nat.reduceEqDiff]
         rfl
       · rfl
       first
       | (apply zd
          · simp only [z5, z0, Nat.reduceLT, decide_true, cond_true, ins]
            rfl
          · simp only [z5, z0, Nat.reduceLT, decide_true, cond_true, ins]
            rfl)
       | (apply zh
          · simp only [z5, z0, Nat.reduceLT, decide_true, cond_true, ins]
            rfl))
    | ((first | apply zb | apply zc)
       · rfl
       · simp only [z5, z0, Nat.reduceLT, decide_true, cond_true, ins]
         rfl)
    | (apply za
       · simp only [go_sem, Nat.reduceEqDiff])
    | (apply z7
       · simp only [go_sem, Nat.reduceEqDiff])
    | (apply zg
       · kernel_rfl
       · kernel_rfl)
    | (simp only [bW, if_true, Nat.reduceEqDiff, if_false])
  subst hF
  simp only [go_sem, Nat.reduceEqDiff, bP, Nat.reduceAdd, Nat.reduceLeDiff, List.length_map, Tryd.f35]
theorem t35n : (lim cfg).pure 35 [.sl true [] 0 none, .sl true [] 0 none] = some (B true) := lim_pure.2 ⟨30, by kernel_rfl⟩

theorem L34_6 {F : Exit → St → Option D} (p : Paper) (k : List Kt) (x : D) (hwf : p.wf) (hok : zn p = true) (hc0 : clashA p 0 = none) (hc1 : clashA p 1 = none) : ∀ (m i : Nat) (l h : List F4), (i : Int) + m = p.sheets → l.length + m ≤ 1000 → h.length = l.length →
    zB cfg (lim cfg) 34 F k (.exit 0) ⟨50, [(21, B false), (20, I p.sheets), (19, .lref 0 0 3 0), (18, I (i + m : Nat)), (1, .lref 0 0 3 0), (6, gD 1 4 (l ++ (List.range' i m).map (endF0 p))), (7, gD 2 4 (h ++ (List.range' i m).map (endF1 p))), (8, I (i + m : Nat))], (0, ⟨[zt p], 3, false⟩) :: (gO 1 4 zP (l ++ (List.range' i m).map (endF0 p)) ++ gO 2 4 zP (h ++ (List.range' i m).map (endF1 p))), gN (gN 1 (l ++ (List.range' i m).map (endF0 p))) (h ++ (List.range' i m).map (endF1 p)), 0⟩ = some x →
    EvL cfg (lim cfg) 34 F lp34_6 k ⟨50, [(1, .lref 0 0 3 0), (6, gD 1 4 (l)), (7, gD 2 4 (h)), (8, I (i : Nat))], (0, ⟨[zt p], 3, false⟩) :: (gO 1 4 zP (l) ++ gO 2 4 zP (h)), gN (gN 1 (l)) (h), 0⟩ = some x := by
  obtain ⟨o1, o2, _⟩ := zC hok
  intro m
  induction m with
  | zero =>
    intro i l h hi he hlh hh
    have hi' : ((i : Int) < p.sheets) = False := by simp; omega
    simp only [List.range'_zero, List.map_nil, List.append_nil, Nat.add_zero] at hh
    refine zk ?_
    try dsimp only [lp34_6, zz, zo, Tryd.f34]
    simp only [bW, if_true, Nat.reduceEqDiff, if_false]
    repeat' first
      | (intro hb; first | cases hb | skip)
      | ((first | apply z8 | apply ze)
         · rfl
         · simp (disch := assumption) only [go_sem, Nat.reduceEqDiff, Nat.reduceAdd, bP, zf, Nat.reduceLeDiff, Nat.reduceLT, Nat.reduceMul, List.length_append, decide_eq_true_eq, z9, z6, Int.reduceToNat, Int.reduceLE, Int.reduceLT, Int.reduceBNe, Int.reduceBEq, hi']
           rfl
         · simp only [go_sem, Nat.reduceLT, Nat.reduceEqDiff]
           rfl
         · rfl
         first
         | (apply zd
            · simp only [z5, z0, Nat.reduceLT, decide_true, cond_true, ins]
              rfl
            · simp only [z5, z0, Nat.reduceLT, decide_true, cond_true, ins]
              rfl)
         | (apply zh
            · simp only [z5, z0, Nat.reduceLT, decide_true, cond_true, ins]
              rfl))
      | ((first | apply zb | apply zc)
         · rfl
         · simp only [z5, z0, Nat.reduceLT, decide_true, cond_true, ins]
           rfl)
      | (apply za
         · simp only [go_sem, Nat.reduceEqDiff])
      | (apply z7
         · simp only [go_sem, Nat.reduceEqDiff])
      | (apply zg
         · kernel_rfl
         · kernel_rfl)
      | (simp only [bW, if_true, Nat.reduceEqDiff, if_false])
    exact hh
  | succ m ih =>
    intro i l h hi he hlh hh
    have hlt' : ((i : Int) < p.sheets) = True := by simp; omega
    have hw3 : IntKind.i64.wrap ((i : Int) + 1) = ((i + 1 : Nat) : Int) := by rw [wrap_i64 (by omega) (by omega)]; omega
    have hs : zw p i = true := by simp [zw]; omega
    have h83a := t83 p i 0 hwf hok hc0 hs
    have h83b := t83 p i 1 hwf hok hc1 hs
    rw [show i + (m + 1) = i + 1 + m by omega] at hh
    cases l with
    | nil =>
      cases h with
      | cons e' r' => simp at hlh
      | nil =>
        simp only [gD, gO, gN, List.nil_append, List.append_nil]
        refine zk ?_
        try dsimp only [lp34_6, zz, zo, Tryd.f34]
        simp only [bW, if_true, Nat.reduceEqDiff, if_false]
        repeat' first
          | (intro hb; first | cases hb | skip)
          | ((first | apply z8 | apply ze)
             · rfl
             · simp (disch := assumption) only [go_sem, Nat.reduceEqDiff, Nat.reduceAdd, bP, zf, Nat.reduceLeDiff, Nat.reduceLT, Nat.reduceMul, List.length_append, decide_eq_true_eq, z9, z6, Int.reduceToNat, Int.reduceLE, Int.reduceLT, Int.reduceBNe, Int.reduceBEq, okF.allOk, hlt', hw3, h83a, h83b, show (0 : Nat) < 2 from by decide, show (1 : Nat) < 2 from by decide]
               rfl
             · simp only [go_sem, Nat.reduceLT, Nat.reduceEqDiff]
               rfl
             · rfl
             first
             | (apply zd
                · simp only [z5, z0, Nat.reduceLT, decide_true, cond_true, ins]
                  rfl
                · simp only [z5, z0, Nat.reduceLT, decide_true, cond_true, ins]
                  rfl)
             | (apply zh
                · simp only [z5, z0, Nat.reduceLT, decide_true, cond_true, ins]
                  rfl))
          | ((first | apply zb | apply zc)
             · rfl
             · simp only [z5, z0, Nat.reduceLT, decide_true, cond_true, ins]
               rfl)
          | (apply za
             · simp only [go_sem, Nat.reduceEqDiff])
          | (apply z7
             · simp only [go_sem, Nat.reduceEqDiff])
          | (apply zg
             · kernel_rfl
             · kernel_rfl)
          | (simp only [bW, if_true, Nat.reduceEqDiff, if_false])
        refine zu (st1 := ⟨50, [(1, .lref 0 0 3 0), (6, gD 1 4 (([]) ++ [endF0 p i])), (7, gD 2 4 (([]) ++ [endF1 p i])), (8, I (i + 1 : Nat))], (0, ⟨[zt p], 3, false⟩) :: (gO 1 4 zP (([]) ++ [endF0 p i]) ++ gO 2 4 zP (([]) ++ [endF1 p i])), gN (gN 1 (([]) ++ [endF0 p i])) (([]) ++ [endF1 p i]), 0⟩) lk34_6 (by
          simp only [go_sem, List.map_append, Nat.reduceEqDiff, Nat.reduceLT, Nat.reduceAdd, bI, bD, bI2, okF.renL, okF.idsL, okF.idsL_app, gD, gO, gN, endF0, endF1, zP, zt, List.length_append, List.length_map]
          try rfl) (ih (i + 1) ([] ++ [endF0 p i]) ([] ++ [endF1 p i]) (by omega) (by simp at he ⊢; omega) (by simp at hlh ⊢; try omega) (by rw [List.range'_succ, List.map_cons, List.map_cons] at hh; simpa using hh))
    | cons e r =>
      cases h with
      | nil => simp at hlh
      | cons e' r' =>
        simp only [List.length_cons] at he hlh
        have hlr : r'.length = r.length := by omega
        have hle : (r.length + 1 + 1 ≤ r.length + 1) = False := by simp
        have hb1 : ((r.length + 1 + 1) * 32 ≤ big) = True := by simp [big]; omega
        have hb2 : (r.length + 1 + 1 ≤ big) = True := by simp [big]; omega
        have hao : allOk 4 (zP e :: List.map zP r) = true := okF.allOk (e :: r)
        have hao' : allOk 4 (zP e' :: List.map zP r') = true := okF.allOk (e' :: r')
        have hle' : (r'.length + 1 + 1 ≤ r'.length + 1) = False := by simp
        have hb1' : ((r'.length + 1 + 1) * 32 ≤ big) = True := by simp [big]; omega
        have hb2' : (r'.length + 1 + 1 ≤ big) = True := by simp [big]; omega
        simp only [gD, gO, gN, List.map_cons, List.cons_append, List.nil_append]
        refine zk ?_
        try dsimp only [lp34_6, zz, zo, Tryd.f34]
        simp only [bW, if_true, Nat.reduceEqDiff, if_false]
        repeat' first
          | (intro hb; first | cases hb | skip)
          | ((first | apply z8 | apply ze)
             · rfl
             · simp (disch := assumption) only [go_sem, Nat.reduceEqDiff, Nat.reduceAdd, bP, zf, Nat.reduceLeDiff, Nat.reduceLT, Nat.reduceMul, List.length_append, decide_eq_true_eq, z9, z6, Int.reduceToNat, Int.reduceLE, Int.reduceLT, Int.reduceBNe, Int.reduceBEq, okF.allOk, hlt', hw3, h83a, h83b, show (0 : Nat) < 2 from by decide, show (1 : Nat) < 2 from by decide, hle, hb1, hb2, hle', hb1', hb2', hao, hao', List.length_map]
               rfl
             · simp only [go_sem, Nat.reduceLT, Nat.reduceEqDiff]
               rfl
             · rfl
             first
             | (apply zd
                · simp only [z5, z0, Nat.reduceLT, decide_true, cond_true, ins]
                  rfl
                · simp only [z5, z0, Nat.reduceLT, decide_true, cond_true, ins]
                  rfl)
             | (apply zh
                · simp only [z5, z0, Nat.reduceLT, decide_true, cond_true, ins]
                  rfl))
          | ((first | apply zb | apply zc)
             · rfl
             · simp only [z5, z0, Nat.reduceLT, decide_true, cond_true, ins]
               rfl)
          | (apply za
             · simp only [go_sem, Nat.reduceEqDiff])
          | (apply z7
             · simp only [go_sem, Nat.reduceEqDiff])
          | (apply zg
             · kernel_rfl
             · kernel_rfl)
          | (simp only [bW, if_true, Nat.reduceEqDiff, if_false])
        refine zu (st1 := ⟨50, [(1, .lref 0 0 3 0), (6, gD 1 4 ((e :: r) ++ [endF0 p i])), (7, gD 2 4 ((e' :: r') ++ [endF1 p i])), (8, I (i + 1 : Nat))], (0, ⟨[zt p], 3, false⟩) :: (gO 1 4 zP ((e :: r) ++ [endF0 p i]) ++ gO 2 4 zP ((e' :: r') ++ [endF1 p i])), gN (gN 1 ((e :: r) ++ [endF0 p i])) ((e' :: r') ++ [endF1 p i]), 0⟩) lk34_6 (by
          simp only [go_sem, List.map_append, Nat.reduceEqDiff, Nat.reduceLT, Nat.reduceAdd, bI, bD, bI2, okF.renL, okF.idsL, okF.idsL_app, gD, gO, gN, endF0, endF1, zP, zt, List.length_append, List.length_map]
          try rfl) (ih (i + 1) (e :: r ++ [endF0 p i]) (e' :: r' ++ [endF1 p i]) (by omega) (by simp at he ⊢; omega) (by simp at hlh ⊢; try omega) (by rw [List.range'_succ, List.map_cons, List.map_cons] at hh; simpa using hh))
theorem t34 (p : Paper) (hwf : p.wf) : (lim cfg).pure 34 [zt p] = some (if zO p 0 [] = 0 then .tup [.sl false ((endsF0 p).map zP) 4 none, .sl false ((endsF1 p).map zP) 4 none, I 0] else .tup [.sl true [] 0 none, .sl true [] 0 none, I (zO p 0 [])]) := by
  have h82 := t82 p 0 true [] hwf 0 (by simp) (by simp) (by simp)
  simp only [List.map_nil] at h82
  by_cases hk : zO p 0 [] = 0
  · rw [if_pos hk]
    rw [hk] at h82
    obtain ⟨hok, hp, -, -⟩ := known_zero.1 hk
    obtain ⟨n, hn, n1, n2⟩ := sheet_pos hok
    have hE0 : endsF0 p = (List.range' 0 n).map (endF0 p) := by unfold endsF0; rw [hn]; rfl
    have hE1 : endsF1 p = (List.range' 0 n).map (endF1 p) := by unfold endsF1; rw [hn]; rfl
    rw [hE0, hE1]
    refine zm (zj 34) cfn34 rfl (n := 50) rfl ?_
    generalize hF : finP cfg Tryd.f34 = F
    simp only [bW, if_true, Nat.reduceEqDiff, if_false, zl]
    repeat' first
      | (intro hb; first | cases hb | skip)
      | ((first | apply z8 | apply ze)
         · rfl
         · simp (disch := assumption) only [go_sem, Nat.reduceEqDiff, Nat.reduceAdd, bP, zf, Nat.reduceLeDiff, Nat.reduceLT, Nat.reduceMul, List.length_append, decide_eq_true_eq, z9, z6, Int.reduceToNat, Int.reduceLE, Int.reduceLT, Int.reduceBNe, Int.reduceBEq, h82]
           rfl
         · simp only [go_sem, Nat.reduceLT, Nat.reduceEqDiff]
           rfl
         · rfl
         first
         | (apply zd
            · simp only [z5, z0, Nat.reduceLT, decide_true, cond_true, ins]
              rfl
            · simp only [z5, z0, Nat.reduceLT, decide_true, cond_true, ins]
              rfl)
         | (apply zh
            · simp only [z5, z0, Nat.reduceLT, decide_true, cond_true, ins]
              rfl))
      | ((first | apply zb | apply zc)
         · rfl
         · simp only [z5, z0, Nat.reduceLT, decide_true, cond_true, ins]
           rfl)
      | (apply za
         · simp only [go_sem, Nat.reduceEqDiff])
      | (apply z7
         · simp only [go_sem, Nat.reduceEqDiff])
      | (apply zg
         · kernel_rfl
         · kernel_rfl)
      | (simp only [bW, if_true, Nat.reduceEqDiff, if_false])
    refine zS (st1 := ⟨50, [(1, .lref 0 0 3 0), (6, gD 1 4 ([])), (7, gD 2 4 ([])), (8, I (0 : Nat))], (0, ⟨[zt p], 3, false⟩) :: (gO 1 4 zP ([]) ++ gO 2 4 zP ([])), gN (gN 1 ([])) ([]), 0⟩) lk34_6 (by
      simp only [go_sem, List.map_append, Nat.reduceEqDiff, Nat.reduceLT, Nat.reduceAdd, bI, bD, bI2, gD, gO, gN]
      try rfl) (L34_6 p _ _ hwf hok (poss_none hp rfl) (poss_none hp rfl) n 0 [] [] (by omega) (by simp; omega) rfl ?_)
    rw [List.nil_append, List.nil_append]
    have hl0 : ((List.range' 0 n).map (endF0 p)).length = n := by simp
    have hl1 : ((List.range' 0 n).map (endF1 p)).length = n := by simp
    generalize (List.range' 0 n).map (endF0 p) = A at *
    generalize (List.range' 0 n).map (endF1 p) = A' at *
    clear hE0 hE1
    cases A with
    | nil => simp at hl0; omega
    | cons e r =>
      cases A' with
      | nil => simp at hl1; omega
      | cons e' r' =>
        simp only [gD, gO, gN, List.cons_append, List.nil_append]
        have htk : List.take (r.length + 1) (List.map zP (e :: r)) = List.map zP (e :: r) := by rw [List.take_of_length_le]; simp
        have htk' : List.take (r'.length + 1) (List.map zP (e' :: r')) = List.map zP (e' :: r') := by rw [List.take_of_length_le]; simp
        simp only [List.map_cons] at htk htk'
        simp only [bW, if_true, Nat.reduceEqDiff, if_false]
        repeat' first
          | (intro hb; first | cases hb | skip)
          | ((first | apply z8 | apply ze)
             · rfl
             · simp (disch := assumption) only [go_sem, Nat.reduceEqDiff, Nat.reduceAdd, bP, zf, Nat.reduceLeDiff, Nat.reduceLT, Nat.reduceMul, List.length_append, decide_eq_true_eq, z9, z6, Int.reduceToNat, Int.reduceLE, Int.reduceLT, Int.reduceBNe, Int.reduceBEq]
               rfl
             · simp only [go_sem, Nat.reduceLT, Nat.reduceEqDiff]
               rfl
             · rfl
             first
             | (apply zd
                · simp only [z5, z0, Nat.reduceLT, decide_true, cond_true, ins]
                  rfl
                · simp only [z5, z0, Nat.reduceLT, decide_true, cond_true, ins]
                  rfl)
             | (apply zh
                · simp only [z5, z0, Nat.reduceLT, decide_true, cond_true, ins]
                  rfl))
          | ((first | apply zb | apply zc)
             · rfl
             · simp only [z5, z0, Nat.reduceLT, decide_true, cond_true, ins]
               rfl)
          | (apply za
             · simp only [go_sem, Nat.reduceEqDiff])
          | (apply z7
             · simp only [go_sem, Nat.reduceEqDiff])
          | (apply zg
             · kernel_rfl
             · kernel_rfl)
          | (simp only [bW, if_true, Nat.reduceEqDiff, if_false])
        subst hF
        simp only [go_sem, Nat.reduceEqDiff, bP, Nat.reduceAdd, Nat.reduceLeDiff, List.length_map, Tryd.f34, htk, htk', okF.snapAll, okF.snap]
  · rw [if_neg hk]
    have hne : (zO p 0 [] != 0) = true := by simp [hk]
    refine zm (zj 34) cfn34 rfl (n := 50) rfl ?_
    simp only [bW, if_true, Nat.reduceEqDiff, if_false, zl]
    repeat' first
      | (intro hb; first | cases hb | skip)
      | ((first | apply z8 | apply ze)
         · rfl
         · simp (disch := assumption) only [go_sem, Nat.reduceEqDiff, Nat.reduceAdd, bP, zf, Nat.reduceLeDiff, Nat.reduceLT, Nat.reduceMul, List.length_append, decide_eq_true_eq, z9, z6, Int.reduceToNat, Int.reduceLE, Int.reduceLT, Int.reduceBNe, Int.reduceBEq, h82, hne]
           rfl
         · simp only [go_sem, Nat.reduceLT, Nat.reduceEqDiff]
           rfl
         · rfl
         first
         | (apply zd
            · simp only [z5, z0, Nat.reduceLT, decide_true, cond_true, ins]
              rfl
            · simp only [z5, z0, Nat.reduceLT, decide_true, cond_true, ins]
              rfl)
         | (apply zh
            · simp only [z5, z0, Nat.reduceLT, decide_true, cond_true, ins]
              rfl))
      | ((first | apply zb | apply zc)
         · rfl
         · simp only [z5, z0, Nat.reduceLT, decide_true, cond_true, ins]
           rfl)
      | (apply za
         · simp only [go_sem, Nat.reduceEqDiff])
      | (apply z7
         · simp only [go_sem, Nat.reduceEqDiff])
      | (apply zg
         · kernel_rfl
         · kernel_rfl)
      | (simp only [bW, if_true, Nat.reduceEqDiff, if_false])
    all_goals try simp only [go_sem, Nat.reduceEqDiff, bP, Nat.reduceAdd, Nat.reduceLeDiff, List.length_map, Tryd.f34]
    all_goals first | done | rfl | (simp_all []; done) | trace_state

end Go.VS
namespace Go.VS
open Go Go.Proofs
set_option maxHeartbeats 0
set_option linter.unusedSimpArgs false

noncomputable def lp114_3 : Code := zz [1, 1, 0, 1, 0, 0] (zo Tryd.f114)
theorem lk114_3 : cfg.keep 114 (zr lp114_3) = [5, 6, 8, 9] := by kernel_rfl

noncomputable def lp94_5 : Code := zz [1, 1, 1, 0, 1, 0, 0] (zo Tryd.f94)
theorem lk94_5 : cfg.keep 94 (zr lp94_5) = [1, 2, 3, 6, 7, 8, 10] := by kernel_rfl

theorem t22c (m : Int) (a b : Ratio) (hm : m ≤ 16000000000000) (ha : 1 ≤ a.n ∧ a.n ≤ m ∧ 1 ≤ a.d ∧ a.d ≤ m) (hb : 1 ≤ b.n ∧ b.n ≤ 2000 ∧ 1 ≤ b.d ∧ b.d ≤ 2000) : (lim cfg).pure 22 [.agg [I a.n, I a.d], .agg [I b.n, I b.d]] = some (.agg [I (zK a b).n, I (zK a b).d]) := by
  obtain ⟨a1, a2, a3, a4⟩ := ha
  obtain ⟨b1, b2, b3, b4⟩ := hb
  obtain ⟨l1, l2, l3, l4⟩ := low_le a1 b3
  obtain ⟨m1, m2, m3, m4⟩ := low_le b1 a3
  have q1 := Int.mul_le_mul l1 m1 (by omega) (by omega)
  have q3 := Int.mul_le_mul l3 m3 (by omega) (by omega)
  have q2 : (lowR a.n b.d).n * (lowR b.n a.d).n ≤ m * 2000 := Int.mul_le_mul (by omega) (by omega) (by omega) (by omega)
  have q4 : (lowR a.n b.d).d * (lowR b.n a.d).d ≤ 2000 * m := Int.mul_le_mul (by omega) (by omega) (by omega) (by omega)
  have w1 : IntKind.i64.wrap ((lowR a.n b.d).n * (lowR b.n a.d).n) = (lowR a.n b.d).n * (lowR b.n a.d).n := wrap_i64 (by omega) (by omega)
  have w2 : IntKind.i64.wrap ((lowR a.n b.d).d * (lowR b.n a.d).d) = (lowR a.n b.d).d * (lowR b.n a.d).d := wrap_i64 (by omega) (by omega)
  have e1 := t74 a.n b.d a1 (by omega) b3 (by omega)
  have e2 := t74 b.n a.d b1 (by omega) a3 (by omega)
  have e3 := t74 ((lowR a.n b.d).n * (lowR b.n a.d).n) ((lowR a.n b.d).d * (lowR b.n a.d).d) (by omega) (by omega) (by omega) (by omega)
  refine zm (zj 22) cfn22 rfl (n := 28) rfl ?_
  simp only [bW, if_true, Nat.reduceEqDiff, if_false, zl]
  repeat' first
    | (intro hb; first | cases hb | skip)
    | ((first | apply z8 | apply ze)
       · rfl
       · simp (disch := assumption) only [go_sem, Nat.reduceEqDiff, Nat.reduceAdd, bP, zf, Nat.reduceLeDiff, Nat.reduceLT, Nat.reduceMul, List.length_append, decide_eq_true_eq, z9, z6, Int.reduceToNat, Int.reduceLE, Int.reduceLT, Int.reduceBNe, Int.reduceBEq, e1, e2, e3, w1, w2]
         rfl
       · simp only [go_sem, Nat.reduceLT, Nat.reduceEqDiff]
         rfl
       · rfl
       first
       | (apply zd
          · simp only [z5, z0, Nat.reduceLT, decide_true, cond_true, ins]
            rfl
          · simp only [z5, z0, Nat.reduceLT, decide_true, cond_true, ins]
            rfl)
       | (apply zh
          · simp only [z5, z0, Nat.reduceLT, decide_true, cond_true, ins]
            rfl))
    | ((first | apply zb | apply zc)
       · rfl
       · simp only [z5, z0, Nat.reduceLT, decide_true, cond_true, ins]
         rfl)
    | (apply za
       · simp only [go_sem, Nat.reduceEqDiff])
    | (apply z7
       · simp only [go_sem, Nat.reduceEqDiff])
    | (apply zg
       · kernel_rfl
       · kernel_rfl)
    | (simp only [bW, if_true, Nat.reduceEqDiff, if_false])
  all_goals simp only [go_sem, Nat.reduceEqDiff, bP, Nat.reduceAdd, Nat.reduceLeDiff, List.length_map, Tryd.f22]
  all_goals first | rfl | (simp_all []; done) | (simp_all []; intros; omega)

theorem timesB' {m : Int} {a b : Ratio} (ha : 1 ≤ a.n ∧ a.n ≤ m ∧ 1 ≤ a.d ∧ a.d ≤ m) (hb : 1 ≤ b.n ∧ b.n ≤ 2000 ∧ 1 ≤ b.d ∧ b.d ≤ 2000) : 1 ≤ (zK a b).n ∧ (zK a b).n ≤ m * 2000 ∧ 1 ≤ (zK a b).d ∧ (zK a b).d ≤ m * 2000 := by
  obtain ⟨a1, a2, a3, a4⟩ := ha
  obtain ⟨b1, b2, b3, b4⟩ := hb
  obtain ⟨l1, l2, l3, l4⟩ := low_le a1 b3
  obtain ⟨m1, m2, m3, m4⟩ := low_le b1 a3
  have p1 := Int.mul_le_mul l1 m1 (by omega) (by omega)
  have p2 := Int.mul_le_mul l3 m3 (by omega) (by omega)
  have p3 : (lowR a.n b.d).n * (lowR b.n a.d).n ≤ m * 2000 := Int.mul_le_mul (by omega) (by omega) (by omega) (by omega)
  have p4 : (lowR a.n b.d).d * (lowR b.n a.d).d ≤ 2000 * m := Int.mul_le_mul (by omega) (by omega) (by omega) (by omega)
  obtain ⟨q1, q2, q3, q4⟩ := low_le (n := (lowR a.n b.d).n * (lowR b.n a.d).n) (d := (lowR a.n b.d).d * (lowR b.n a.d).d) (by omega) (by omega)
  unfold zK
  omega
theorem L114_3 {F : Exit → St → Option D} (es : List Edge) (r : Reason) (k : List Kt) (x : D) (hl : es.length ≤ 1000) (hk : ∀ (e : Edge) st, get st.tmps 7 = B true → get st.tmps 6 = .lref 1 0 7 0 → zF st.objs 1 = some ⟨[.agg [B e.why.join, I e.why.at_, B e.why.back, I e.src, I e.dst, I e.q.n, I e.q.d]], 7, false⟩ → zB cfg (lim cfg) 114 F k .ret st = some (.tup [.agg [B e.why.join, I e.why.at_, B e.why.back, I e.src, I e.dst, I e.q.n, I e.q.d], B true])) : ∀ (rest : List Edge) (i : Nat), es.drop i = rest → i ≤ es.length →
    (findW rest r = none → zB cfg (lim cfg) 114 F k (.exit 0) ⟨31, [(16, B false), (15, I es.length), (14, .sl false (es.map encY) 7 none), (13, I (es.length : Nat)), (5, .lref 0 0 3 0), (6, .lref 1 0 7 0), (8, .sl false (es.map encY) 7 none), (9, I (es.length : Nat))], [(0, ⟨[.agg [B r.join, I r.at_, B r.back]], 3, false⟩), (1, ⟨[.agg [B false, I 0, B false, I 0, I 0, I 0, I 0]], 7, false⟩)], 2, 0⟩ = some x) →
    (∀ e, findW rest r = some e → x = .tup [.agg [B e.why.join, I e.why.at_, B e.why.back, I e.src, I e.dst, I e.q.n, I e.q.d], B true]) →
    EvL cfg (lim cfg) 114 F lp114_3 k ⟨31, [(5, .lref 0 0 3 0), (6, .lref 1 0 7 0), (8, .sl false (es.map encY) 7 none), (9, I (i : Nat))], [(0, ⟨[.agg [B r.join, I r.at_, B r.back]], 3, false⟩), (1, ⟨[.agg [B false, I 0, B false, I 0, I 0, I 0, I 0]], 7, false⟩)], 2, 0⟩ = some x := by
  intro rest
  induction rest with
  | nil =>
    intro i hd hi h h'
    have hi' : i = es.length := by
      have := List.drop_eq_nil_iff.1 hd
      omega
    subst hi'
    refine zk ?_
    try dsimp only [lp114_3, zz, zo, Tryd.f114]
    simp only [bW, if_true, Nat.reduceEqDiff, if_false]
    repeat' first
      | (intro hb; first | cases hb | skip)
      | ((first | apply z8 | apply ze)
         · rfl
         · simp (disch := assumption) only [go_sem, Nat.reduceEqDiff, Nat.reduceAdd, bP, zf, Nat.reduceLeDiff, Nat.reduceLT, Nat.reduceMul, List.length_append, decide_eq_true_eq, z9, z6, Int.reduceToNat, Int.reduceLE, Int.reduceLT, Int.reduceBNe, Int.reduceBEq, List.length_map, Int.lt_irrefl]
           rfl
         · simp only [go_sem, Nat.reduceLT, Nat.reduceEqDiff]
           rfl
         · rfl
         first
         | (apply zd
            · simp only [z5, z0, Nat.reduceLT, decide_true, cond_true, ins]
              rfl
            · simp only [z5, z0, Nat.reduceLT, decide_true, cond_true, ins]
              rfl)
         | (apply zh
            · simp only [z5, z0, Nat.reduceLT, decide_true, cond_true, ins]
              rfl))
      | ((first | apply zb | apply zc)
         · rfl
         · simp only [z5, z0, Nat.reduceLT, decide_true, cond_true, ins]
           rfl)
      | (apply za
         · simp only [go_sem, Nat.reduceEqDiff])
      | (apply z7
         · simp only [go_sem, Nat.reduceEqDiff])
      | (apply zg
         · kernel_rfl
         · kernel_rfl)
      | (simp only [bW, if_true, Nat.reduceEqDiff, if_false])
    exact h rfl
  | cons e rest ih =>
    intro i hd hi h h'
    have hlt : i < es.length := by
      rcases Nat.lt_or_ge i es.length with h | h
      · exact h
      · rw [List.drop_eq_nil_of_le h] at hd; cases hd
    have hm : es[i]? = some e := by rw [← List.head?_drop, hd]; rfl
    have hx : (es.map encY)[i]? = some (.agg [B e.why.join, I e.why.at_, B e.why.back, I e.src, I e.dst, I e.q.n, I e.q.d]) := by rw [List.getElem?_map, hm]; rfl
    have hlt' : (i : Int) < (es.length : Int) := by omega
    have hw3 : IntKind.i64.wrap ((i : Int) + 1) = ((i + 1 : Nat) : Int) := by rw [wrap_i64 (by omega) (by omega)]; omega
    unfold findW at h h'
    rw [List.find?_cons] at h h'
    cases he : eqW e.why r with
    | true =>
      rw [he] at h h'
      have hE : (e.why.join == r.join && (e.why.at_ == r.at_ && e.why.back == r.back)) = true := he
      rw [h' e rfl]
      clear h h' ih
      refine zk ?_
      try dsimp only [lp114_3, zz, zo, Tryd.f114]
      simp only [bW, if_true, Nat.reduceEqDiff, if_false]
      repeat' first
        | (intro hb; first | cases hb | skip)
        | ((first | apply z8 | apply ze)
           · rfl
           · simp (disch := assumption) only [go_sem, Nat.reduceEqDiff, Nat.reduceAdd, bP, zf, Nat.reduceLeDiff, Nat.reduceLT, Nat.reduceMul, List.length_append, decide_eq_true_eq, z9, z6, Int.reduceToNat, Int.reduceLE, Int.reduceLT, Int.reduceBNe, Int.reduceBEq, List.length_map, hx, hlt', hw3, hE, eqBoolV]
             rfl
           · simp only [go_sem, Nat.reduceLT, Nat.reduceEqDiff]
             rfl
           · rfl
           first
           | (apply zd
              · simp only [z5, z0, Nat.reduceLT, decide_true, cond_true, ins]
                rfl
              · simp only [z5, z0, Nat.reduceLT, decide_true, cond_true, ins]
                rfl)
           | (apply zh
              · simp only [z5, z0, Nat.reduceLT, decide_true, cond_true, ins]
                rfl))
        | ((first | apply zb | apply zc)
           · rfl
           · simp only [z5, z0, Nat.reduceLT, decide_true, cond_true, ins]
             rfl)
        | (apply za
           · simp only [go_sem, Nat.reduceEqDiff])
        | (apply z7
           · simp only [go_sem, Nat.reduceEqDiff])
        | (apply zg
           · kernel_rfl
           · kernel_rfl)
        | (simp only [bW, if_true, Nat.reduceEqDiff, if_false])
      exact hk e _ rfl rfl rfl
    | false =>
      rw [he] at h h'
      have hE : (e.why.join == r.join && (e.why.at_ == r.at_ && e.why.back == r.back)) = false := he
      refine zk ?_
      try dsimp only [lp114_3, zz, zo, Tryd.f114]
      simp only [bW, if_true, Nat.reduceEqDiff, if_false]
      repeat' first
        | (intro hb; first | cases hb | skip)
        | ((first | apply z8 | apply ze)
           · rfl
           · simp (disch := assumption) only [go_sem, Nat.reduceEqDiff, Nat.reduceAdd, bP, zf, Nat.reduceLeDiff, Nat.reduceLT, Nat.reduceMul, List.length_append, decide_eq_true_eq, z9, z6, Int.reduceToNat, Int.reduceLE, Int.reduceLT, Int.reduceBNe, Int.reduceBEq, List.length_map, hx, hlt', hw3, hE, eqBoolV]
             rfl
           · simp only [go_sem, Nat.reduceLT, Nat.reduceEqDiff]
             rfl
           · rfl
           first
           | (apply zd
              · simp only [z5, z0, Nat.reduceLT, decide_true, cond_true, ins]
                rfl
              · simp only [z5, z0, Nat.reduceLT, decide_true, cond_true, ins]
                rfl)
           | (apply zh
              · simp only [z5, z0, Nat.reduceLT, decide_true, cond_true, ins]
                rfl))
        | ((first | apply zb | apply zc)
           · rfl
           · simp only [z5, z0, Nat.reduceLT, decide_true, cond_true, ins]
             rfl)
        | (apply za
           · simp only [go_sem, Nat.reduceEqDiff])
        | (apply z7
           · simp only [go_sem, Nat.reduceEqDiff])
        | (apply zg
           · kernel_rfl
           · kernel_rfl)
        | (simp only [bW, if_true, Nat.reduceEqDiff, if_false])
      exact zu (st1 := ⟨31, [(5, .lref 0 0 3 0), (6, .lref 1 0 7 0), (8, .sl false (es.map encY) 7 none), (9, I (i + 1 : Nat))], [(0, ⟨[.agg [B r.join, I r.at_, B r.back]], 3, false⟩), (1, ⟨[.agg [B false, I 0, B false, I 0, I 0, I 0, I 0]], 7, false⟩)], 2, 0⟩) lk114_3 (by kernel_rfl) (ih (i + 1) (by rw [← List.drop_drop, hd]; rfl) hlt h h')
def saidD (o : Option Edge) : D := match o with | some e => .tup [.agg [B e.why.join, I e.why.at_, B e.why.back, I e.src, I e.dst, I e.q.n, I e.q.d], B true] | none => .tup [.agg [B false, I 0, B false, I 0, I 0, I 0, I 0], B false]
theorem t114 (p : Paper) (ax : Int) (r : Reason) (hwf : p.wf) (hok : zn p = true) : (lim cfg).pure 114 [zt p, I ax, .agg [B r.join, I r.at_, B r.back]] = some (saidD (findW (refE p ax) r)) := by
  have h109 := t109 p ax hwf hok
  obtain ⟨r1, r2⟩ := refE_len hok ax
  generalize refE p ax = es at *
  refine zm (zj 114) cfn114 rfl (n := 31) rfl ?_
  generalize hF : finP cfg Tryd.f114 = F
  simp only [bW, if_true, Nat.reduceEqDiff, if_false, zl]
  have hret : ∀ (e : Edge) st, get st.tmps 7 = B true → get st.tmps 6 = .lref 1 0 7 0 → zF st.objs 1 = some ⟨[.agg [B e.why.join, I e.why.at_, B e.why.back, I e.src, I e.dst, I e.q.n, I e.q.d]], 7, false⟩ → F .ret st = some (.tup [.agg [B e.why.join, I e.why.at_, B e.why.back, I e.src, I e.dst, I e.q.n, I e.q.d], B true]) := by
    intro e st h1 h2 h3
    subst hF
    simp only [go_sem, Nat.reduceEqDiff, bP, Nat.reduceAdd, Nat.reduceLeDiff, List.length_map, Tryd.f114, h1, h2, h3]
  repeat' first
    | (intro hb; first | cases hb | skip)
    | ((first | apply z8 | apply ze)
       · rfl
       · simp (disch := assumption) only [go_sem, Nat.reduceEqDiff, Nat.reduceAdd, bP, zf, Nat.reduceLeDiff, Nat.reduceLT, Nat.reduceMul, List.length_append, decide_eq_true_eq, z9, z6, Int.reduceToNat, Int.reduceLE, Int.reduceLT, Int.reduceBNe, Int.reduceBEq, h109]
         rfl
       · simp only [go_sem, Nat.reduceLT, Nat.reduceEqDiff]
         rfl
       · rfl
       first
       | (apply zd
          · simp only [z5, z0, Nat.reduceLT, decide_true, cond_true, ins]
            rfl
          · simp only [z5, z0, Nat.reduceLT, decide_true, cond_true, ins]
            rfl)
       | (apply zh
          · simp only [z5, z0, Nat.reduceLT, decide_true, cond_true, ins]
            rfl))
    | ((first | apply zb | apply zc)
       · rfl
       · simp only [z5, z0, Nat.reduceLT, decide_true, cond_true, ins]
         rfl)
    | (apply za
       · simp only [go_sem, Nat.reduceEqDiff])
    | (apply z7
       · simp only [go_sem, Nat.reduceEqDiff])
    | (apply zg
       · kernel_rfl
       · kernel_rfl)
    | (simp only [bW, if_true, Nat.reduceEqDiff, if_false])
  refine zS (st1 := ⟨31, [(5, .lref 0 0 3 0), (6, .lref 1 0 7 0), (8, .sl false (es.map encY) 7 none), (9, I (0 : Nat))], [(0, ⟨[.agg [B r.join, I r.at_, B r.back]], 3, false⟩), (1, ⟨[.agg [B false, I 0, B false, I 0, I 0, I 0, I 0]], 7, false⟩)], 2, 0⟩) lk114_3 (by kernel_rfl) (L114_3 es r _ _ r1 (fun e st h1 h2 h3 => by simp only [bW, if_true, Nat.reduceEqDiff, if_false]; exact hret e st h1 h2 h3) es 0 rfl (Nat.zero_le _) (fun h => ?_) (fun e h => by rw [h]; rfl))
  rw [h]
  simp only [bW, if_true, Nat.reduceEqDiff, if_false]
  repeat' first
    | (intro hb; first | cases hb | skip)
    | ((first | apply z8 | apply ze)
       · rfl
       · simp (disch := assumption) only [go_sem, Nat.reduceEqDiff, Nat.reduceAdd, bP, zf, Nat.reduceLeDiff, Nat.reduceLT, Nat.reduceMul, List.length_append, decide_eq_true_eq, z9, z6, Int.reduceToNat, Int.reduceLE, Int.reduceLT, Int.reduceBNe, Int.reduceBEq]
         rfl
       · simp only [go_sem, Nat.reduceLT, Nat.reduceEqDiff]
         rfl
       · rfl
       first
       | (apply zd
          · simp only [z5, z0, Nat.reduceLT, decide_true, cond_true, ins]
            rfl
          · simp only [z5, z0, Nat.reduceLT, decide_true, cond_true, ins]
            rfl)
       | (apply zh
          · simp only [z5, z0, Nat.reduceLT, decide_true, cond_true, ins]
            rfl))
    | ((first | apply zb | apply zc)
       · rfl
       · simp only [z5, z0, Nat.reduceLT, decide_true, cond_true, ins]
         rfl)
    | (apply za
       · simp only [go_sem, Nat.reduceEqDiff])
    | (apply z7
       · simp only [go_sem, Nat.reduceEqDiff])
    | (apply zg
       · kernel_rfl
       · kernel_rfl)
    | (simp only [bW, if_true, Nat.reduceEqDiff, if_false])
  subst hF
  all_goals simp only [go_sem, Nat.reduceEqDiff, bP, Nat.reduceAdd, Nat.reduceLeDiff, List.length_map, Tryd.f114, saidD]

/-- The ratio that stands where a list leads no further. -/
def badQ (es : List Edge) (f : Ratio → Edge → Ratio) : List Reason → Bool → Ratio → Int → Ratio
  | [], _, q, _ => q
  | r :: rs, b, q, a => match findW es r with
    | none => q
    | some e => if b = false ∧ e.src ≠ a then q else badQ es f rs false (f q e) e.dst
theorem L94_5 {F : Exit → St → Option D} (p : Paper) (ax : Int) (es : List Edge) (l : List Reason) (nl : Bool) (sz : Nat) (k : List Kt) (x : D) (hes : ∀ e ∈ es, eB e) (h114' : ∀ r, (lim cfg).pure 114 [zt p, I ax, .agg [B r.join, I r.at_, B r.back]] = some (saidD (findW es r))) (hnl : nl = true → l = []) (hsz : nl = false → sz = 3) (hl5 : l.length ≤ 5) (hk : ∀ (q : Ratio) st, get st.tmps 6 = I 0 → get st.tmps 7 = I 0 → get st.tmps 8 = .lref 1 0 2 0 → get st.tmps 9 = B false → zF st.objs 1 = some ⟨[.agg [I q.n, I q.d]], 2, false⟩ → zB cfg (lim cfg) 94 F k .ret st = some (.tup [I 0, I 0, .agg [I q.n, I q.d], B false])) : ∀ (rest : List Reason) (i : Nat) (q : Ratio) (s a : Int), l.drop i = rest → i ≤ l.length → (1 ≤ q.n ∧ q.n ≤ 2000 ^ i ∧ 1 ≤ q.d ∧ q.d ≤ 2000 ^ i) →
    (∀ (s' a' : Int) (q' : Ratio), goG es timM rest (decide (i = 0)) q s a = some (s', a', q') → zB cfg (lim cfg) 94 F k (.exit 0) ⟨65, [(26, B false), (25, I l.length), (24, .sl nl (l.map encW) sz none), (23, I (l.length : Nat)), (1, I ax), (2, .sl nl (l.map encW) sz none), (3, .lref 0 0 3 0), (6, I (s')), (7, I (a')), (8, .lref 1 0 2 0), (10, I (l.length : Nat))], [(0, ⟨[zt p], 3, false⟩), (1, ⟨[.agg [I (q').n, I (q').d]], 2, false⟩)], 2, 0⟩ = some x) →
    (goG es timM rest (decide (i = 0)) q s a = none → x = .tup [I 0, I 0, .agg [I (badQ es timM rest (decide (i = 0)) q a).n, I (badQ es timM rest (decide (i = 0)) q a).d], B false]) →
    EvL cfg (lim cfg) 94 F lp94_5 k ⟨65, [(1, I ax), (2, .sl nl (l.map encW) sz none), (3, .lref 0 0 3 0), (6, I (s)), (7, I (a)), (8, .lref 1 0 2 0), (10, I (i : Nat))], [(0, ⟨[zt p], 3, false⟩), (1, ⟨[.agg [I (q).n, I (q).d]], 2, false⟩)], 2, 0⟩ = some x := by
  have hlw := len_if (f := encW) hnl
  intro rest
  induction rest with
  | nil =>
    intro i q s a hd hi hq h h0
    have hi' : i = l.length := by
      have := List.drop_eq_nil_iff.1 hd
      omega
    subst hi'
    have h := h s a q rfl
    clear h0
    refine zk ?_
    try dsimp only [lp94_5, zz, zo, Tryd.f94]
    simp only [bW, if_true, Nat.reduceEqDiff, if_false]
    repeat' first
      | (intro hb; first | cases hb | skip)
      | ((first | apply z8 | apply ze)
         · rfl
         · simp (disch := assumption) only [go_sem, Nat.reduceEqDiff, Nat.reduceAdd, bP, zf, Nat.reduceLeDiff, Nat.reduceLT, Nat.reduceMul, List.length_append, decide_eq_true_eq, z9, z6, Int.reduceToNat, Int.reduceLE, Int.reduceLT, Int.reduceBNe, Int.reduceBEq, hlw, Int.lt_irrefl]
           rfl
         · simp only [go_sem, Nat.reduceLT, Nat.reduceEqDiff]
           rfl
         · rfl
         first
         | (apply zd
            · simp only [z5, z0, Nat.reduceLT, decide_true, cond_true, ins]
              rfl
            · simp only [z5, z0, Nat.reduceLT, decide_true, cond_true, ins]
              rfl)
         | (apply zh
            · simp only [z5, z0, Nat.reduceLT, decide_true, cond_true, ins]
              rfl))
      | ((first | apply zb | apply zc)
         · rfl
         · simp only [z5, z0, Nat.reduceLT, decide_true, cond_true, ins]
           rfl)
      | (apply za
         · simp only [go_sem, Nat.reduceEqDiff])
      | (apply z7
         · simp only [go_sem, Nat.reduceEqDiff])
      | (apply zg
         · kernel_rfl
         · kernel_rfl)
      | (simp only [bW, if_true, Nat.reduceEqDiff, if_false])
    exact h
  | cons r rest ih =>
    intro i q s a hd hi hq h h0
    have hlt : i < l.length := by
      rcases Nat.lt_or_ge i l.length with h | h
      · exact h
      · rw [List.drop_eq_nil_of_le h] at hd; cases hd
    have hm : l[i]? = some r := by rw [← List.head?_drop, hd]; rfl
    have hx : (l.map encW)[i]? = some (.agg [B r.join, I r.at_, B r.back]) := by rw [List.getElem?_map, hm]; rfl
    have hnl' : nl = false := by
      cases h : nl with
      | false => rfl
      | true => rw [hnl h] at hlt; cases hlt
    have hs1 := hsz hnl'
    clear hsz
    subst hs1
    subst hnl'
    have hlw' : ((l.map encW).length : Int) = (l.length : Int) := by simp
    have hlt' : ((i : Int) < (l.length : Int)) = True := by simp; omega
    have hw3 : IntKind.i64.wrap ((i : Int) + 1) = ((i + 1 : Nat) : Int) := by rw [wrap_i64 (by omega) (by omega)]; omega
    have h114 := h114' r
    simp only [goG, badQ] at h h0
    cases hf : findW es r with
    | none =>
      rw [hf] at h114 h0
      rw [h0 rfl]
      clear h h0 ih
      simp only [saidD] at h114
      refine zk ?_
      try dsimp only [lp94_5, zz, zo, Tryd.f94]
      simp only [bW, if_true, Nat.reduceEqDiff, if_false]
      repeat' first
        | (intro hb; first | cases hb | skip)
        | ((first | apply z8 | apply ze)
           · rfl
           · simp (disch := assumption) only [go_sem, Nat.reduceEqDiff, Nat.reduceAdd, bP, zf, Nat.reduceLeDiff, Nat.reduceLT, Nat.reduceMul, List.length_append, decide_eq_true_eq, z9, z6, Int.reduceToNat, Int.reduceLE, Int.reduceLT, Int.reduceBNe, Int.reduceBEq, hx, hw3, h114, hlw', hlt']
             rfl
           · simp only [go_sem, Nat.reduceLT, Nat.reduceEqDiff]
             rfl
           · rfl
           first
           | (apply zd
              · simp only [z5, z0, Nat.reduceLT, decide_true, cond_true, ins]
                rfl
              · simp only [z5, z0, Nat.reduceLT, decide_true, cond_true, ins]
                rfl)
           | (apply zh
              · simp only [z5, z0, Nat.reduceLT, decide_true, cond_true, ins]
                rfl))
        | ((first | apply zb | apply zc)
           · rfl
           · simp only [z5, z0, Nat.reduceLT, decide_true, cond_true, ins]
             rfl)
        | (apply za
           · simp only [go_sem, Nat.reduceEqDiff])
        | (apply z7
           · simp only [go_sem, Nat.reduceEqDiff])
        | (apply zg
           · kernel_rfl
           · kernel_rfl)
        | (simp only [bW, if_true, Nat.reduceEqDiff, if_false])
      exact hk q _ rfl rfl rfl rfl rfl
    | some e =>
      rw [hf] at h114
      rw [hf] at h h0
      simp only [saidD] at h114
      simp only [] at h h0
      obtain ⟨e1, e2, e3, e4, e5⟩ := hes e (List.mem_of_find?_eq_some hf)
      have hp1 : (1 : Int) ≤ 2000 ^ i := Int.pow_pos (by omega)
      have hp2 : (2000 : Int) ^ i ≤ 16000000000000 := by
        have : i = 0 ∨ i = 1 ∨ i = 2 ∨ i = 3 ∨ i = 4 := by omega
        rcases this with h | h | h | h | h <;> rw [h] <;> decide
      have h22 := t22c (2000 ^ i) q e.q hp2 hq e5
      have hq' := timesB' hq e5
      rw [← Int.pow_succ] at hq'
      have hz1 : decide (i + 1 = 0) = false := by simp
      rw [← hz1] at h h0
      by_cases hi0 : i = 0
      · have hd0 : decide (i = 0) = true := by simp [hi0]
        have c1 : decide ((i : Int) > 0) = false := by simp; omega
        have c2 : ((i : Int) == 0) = true := by simp [hi0]
        rw [if_neg (by rw [hz1, hd0]; simp), if_pos hd0] at h h0
        rw [if_neg (by rw [hz1, hd0]; simp)] at h0
        have h : ∀ (s' a' : Int) (q' : Ratio), goG es timM rest (decide (i + 1 = 0)) (zK q e.q) e.src e.dst = some (s', a', q') → _ := h
        have h0 : goG es timM rest (decide (i + 1 = 0)) (zK q e.q) e.src e.dst = none → _ := h0
        refine zk ?_
        try dsimp only [lp94_5, zz, zo, Tryd.f94]
        simp only [bW, if_true, Nat.reduceEqDiff, if_false]
        repeat' first
          | (intro hb; first | cases hb | skip)
          | ((first | apply z8 | apply ze)
             · rfl
             · simp (disch := assumption) only [go_sem, Nat.reduceEqDiff, Nat.reduceAdd, bP, zf, Nat.reduceLeDiff, Nat.reduceLT, Nat.reduceMul, List.length_append, decide_eq_true_eq, z9, z6, Int.reduceToNat, Int.reduceLE, Int.reduceLT, Int.reduceBNe, Int.reduceBEq, hx, hw3, h114, hlw', hlt', h22, c1, c2]
               rfl
             · simp only [go_sem, Nat.reduceLT, Nat.reduceEqDiff]
               rfl
             · rfl
             first
             | (apply zd
                · simp only [z5, z0, Nat.reduceLT, decide_true, cond_true, ins]
                  rfl
                · simp only [z5, z0, Nat.reduceLT, decide_true, cond_true, ins]
                  rfl)
             | (apply zh
                · simp only [z5, z0, Nat.reduceLT, decide_true, cond_true, ins]
                  rfl))
          | ((first | apply zb | apply zc)
             · rfl
             · simp only [z5, z0, Nat.reduceLT, decide_true, cond_true, ins]
               rfl)
          | (apply za
             · simp only [go_sem, Nat.reduceEqDiff])
          | (apply z7
             · simp only [go_sem, Nat.reduceEqDiff])
          | (apply zg
             · kernel_rfl
             · kernel_rfl)
          | (simp only [bW, if_true, Nat.reduceEqDiff, if_false])
        exact zu (st1 := ⟨65, [(1, I ax), (2, .sl false (l.map encW) 3 none), (3, .lref 0 0 3 0), (6, I (e.src)), (7, I (e.dst)), (8, .lref 1 0 2 0), (10, I (i + 1 : Nat))], [(0, ⟨[zt p], 3, false⟩), (1, ⟨[.agg [I (zK q e.q).n, I (zK q e.q).d]], 2, false⟩)], 2, 0⟩) lk94_5 (by kernel_rfl) (ih (i + 1) (zK q e.q) (e.src) (e.dst) (by rw [← List.drop_drop, hd]; rfl) hlt hq' h h0)
      · have hd0 : decide (i = 0) = false := by simp [hi0]
        have c1 : decide ((i : Int) > 0) = true := by simp; omega
        have c2 : ((i : Int) == 0) = false := by simp [hi0]
        by_cases ha : e.src = a
        · have c3 : (e.src != a) = false := by simp [ha]
          rw [if_neg (fun h => h.2 ha), if_neg (by rw [hd0]; simp)] at h h0
          rw [if_neg (fun h => h.2 ha)] at h0
          have h : ∀ (s' a' : Int) (q' : Ratio), goG es timM rest (decide (i + 1 = 0)) (zK q e.q) s e.dst = some (s', a', q') → _ := h
          have h0 : goG es timM rest (decide (i + 1 = 0)) (zK q e.q) s e.dst = none → _ := h0
          refine zk ?_
          try dsimp only [lp94_5, zz, zo, Tryd.f94]
          simp only [bW, if_true, Nat.reduceEqDiff, if_false]
          repeat' first
            | (intro hb; first | cases hb | skip)
            | ((first | apply z8 | apply ze)
               · rfl
               · simp (disch := assumption) only [go_sem, Nat.reduceEqDiff, Nat.reduceAdd, bP, zf, Nat.reduceLeDiff, Nat.reduceLT, Nat.reduceMul, List.length_append, decide_eq_true_eq, z9, z6, Int.reduceToNat, Int.reduceLE, Int.reduceLT, Int.reduceBNe, Int.reduceBEq, hx, hw3, h114, hlw', hlt', h22, c1, c2, c3]
                 rfl
               · simp only [go_sem, Nat.reduceLT, Nat.reduceEqDiff]
                 rfl
               · rfl
               first
               | (apply zd
                  · simp only [z5, z0, Nat.reduceLT, decide_true, cond_true, ins]
                    rfl
                  · simp only [z5, z0, Nat.reduceLT, decide_true, cond_true, ins]
                    rfl)
               | (apply zh
                  · simp only [z5, z0, Nat.reduceLT, decide_true, cond_true, ins]
                    rfl))
            | ((first | apply zb | apply zc)
               · rfl
               · simp only [z5, z0, Nat.reduceLT, decide_true, cond_true, ins]
                 rfl)
            | (apply za
               · simp only [go_sem, Nat.reduceEqDiff])
            | (apply z7
               · simp only [go_sem, Nat.reduceEqDiff])
            | (apply zg
               · kernel_rfl
               · kernel_rfl)
            | (simp only [bW, if_true, Nat.reduceEqDiff, if_false])
          exact zu (st1 := ⟨65, [(1, I ax), (2, .sl false (l.map encW) 3 none), (3, .lref 0 0 3 0), (6, I (s)), (7, I (e.dst)), (8, .lref 1 0 2 0), (10, I (i + 1 : Nat))], [(0, ⟨[zt p], 3, false⟩), (1, ⟨[.agg [I (zK q e.q).n, I (zK q e.q).d]], 2, false⟩)], 2, 0⟩) lk94_5 (by kernel_rfl) (ih (i + 1) (zK q e.q) (s) (e.dst) (by rw [← List.drop_drop, hd]; rfl) hlt hq' h h0)
        · have c3 : (e.src != a) = true := by simp [ha]
          rw [if_pos ⟨by rw [hz1, hd0], ha⟩, if_pos ⟨by rw [hz1, hd0], ha⟩] at h0
          rw [h0 rfl]
          clear h h0 ih
          refine zk ?_
          try dsimp only [lp94_5, zz, zo, Tryd.f94]
          simp only [bW, if_true, Nat.reduceEqDiff, if_false]
          repeat' first
            | (intro hb; first | cases hb | skip)
            | ((first | apply z8 | apply ze)
               · rfl
               · simp (disch := assumption) only [go_sem, Nat.reduceEqDiff, Nat.reduceAdd, bP, zf, Nat.reduceLeDiff, Nat.reduceLT, Nat.reduceMul, List.length_append, decide_eq_true_eq, z9, z6, Int.reduceToNat, Int.reduceLE, Int.reduceLT, Int.reduceBNe, Int.reduceBEq, hx, hw3, h114, hlw', hlt', c1, c2, c3]
                 rfl
               · simp only [go_sem, Nat.reduceLT, Nat.reduceEqDiff]
                 rfl
               · rfl
               first
               | (apply zd
                  · simp only [z5, z0, Nat.reduceLT, decide_true, cond_true, ins]
                    rfl
                  · simp only [z5, z0, Nat.reduceLT, decide_true, cond_true, ins]
                    rfl)
               | (apply zh
                  · simp only [z5, z0, Nat.reduceLT, decide_true, cond_true, ins]
                    rfl))
            | ((first | apply zb | apply zc)
               · rfl
               · simp only [z5, z0, Nat.reduceLT, decide_true, cond_true, ins]
                 rfl)
            | (apply za
               · simp only [go_sem, Nat.reduceEqDiff])
            | (apply z7
               · simp only [go_sem, Nat.reduceEqDiff])
            | (apply zg
               · kernel_rfl
               · kernel_rfl)
            | (simp only [bW, if_true, Nat.reduceEqDiff, if_false])
          exact hk q _ rfl rfl rfl rfl rfl
def chainD (o : Option (Int × Int × Ratio)) (w : Ratio) : D := match o with | some (s, a, q) => .tup [I s, I a, .agg [I q.n, I q.d], B true] | none => .tup [I 0, I 0, .agg [I w.n, I w.d], B false]
theorem t94 (p : Paper) (ax : Int) (l : List Reason) (nl : Bool) (sz : Nat) (hwf : p.wf) (hok : zn p = true) (hnl : nl = true → l = []) (hsz : nl = false → sz = 3) (hll : l.length ≤ 9223372036854775807) : ∃ w, (lim cfg).pure 94 [zt p, I ax, .sl nl (l.map encW) sz none] = some (chainD (chainO p ax l) w) := by
  have h114 := fun r => t114 p ax r hwf hok
  have hes := refE_B hok ax
  have hlw := len_if (f := encW) hnl
  by_cases hl : 1 ≤ l.length ∧ l.length ≤ 5
  · have c1 : decide ((l.length : Int) < 1) = false := by simp; omega
    have c2 : decide ((l.length : Int) > 5) = false := by simp; omega
    have hfo : chainO p ax l = goG (refE p ax) timM l true one1 0 0 := by unfold chainO; rw [if_pos hl]
    rw [hfo]
    generalize refE p ax = es at *
    refine ⟨badQ es timM l true one1 0, ?_⟩
    refine zm (zj 94) cfn94 rfl (n := 65) rfl ?_
    generalize hF : finP cfg Tryd.f94 = F
    simp only [bW, if_true, Nat.reduceEqDiff, if_false, zl]
    have hret : ∀ (q : Ratio) st, get st.tmps 6 = I 0 → get st.tmps 7 = I 0 → get st.tmps 8 = .lref 1 0 2 0 → get st.tmps 9 = B false → zF st.objs 1 = some ⟨[.agg [I q.n, I q.d]], 2, false⟩ → F .ret st = some (.tup [I 0, I 0, .agg [I q.n, I q.d], B false]) := by
      intro q st h1 h2 h3 h4 h5
      subst hF
      simp only [go_sem, Nat.reduceEqDiff, bP, Nat.reduceAdd, Nat.reduceLeDiff, List.length_map, Tryd.f94, h1, h2, h3, h4, h5]
    repeat' first
      | (intro hb; first | cases hb | skip)
      | ((first | apply z8 | apply ze)
         · rfl
         · simp (disch := assumption) only [go_sem, Nat.reduceEqDiff, Nat.reduceAdd, bP, zf, Nat.reduceLeDiff, Nat.reduceLT, Nat.reduceMul, List.length_append, decide_eq_true_eq, z9, z6, Int.reduceToNat, Int.reduceLE, Int.reduceLT, Int.reduceBNe, Int.reduceBEq, hlw, c1, c2]
           rfl
         · simp only [go_sem, Nat.reduceLT, Nat.reduceEqDiff]
           rfl
         · rfl
         first
         | (apply zd
            · simp only [z5, z0, Nat.reduceLT, decide_true, cond_true, ins]
              rfl
            · simp only [z5, z0, Nat.reduceLT, decide_true, cond_true, ins]
              rfl)
         | (apply zh
            · simp only [z5, z0, Nat.reduceLT, decide_true, cond_true, ins]
              rfl))
      | ((first | apply zb | apply zc)
         · rfl
         · simp only [z5, z0, Nat.reduceLT, decide_true, cond_true, ins]
           rfl)
      | (apply za
         · simp only [go_sem, Nat.reduceEqDiff])
      | (apply z7
         · simp only [go_sem, Nat.reduceEqDiff])
      | (apply zg
         · kernel_rfl
         · kernel_rfl)
      | (simp only [bW, if_true, Nat.reduceEqDiff, if_false])
    refine zS (st1 := ⟨65, [(1, I ax), (2, .sl nl (l.map encW) sz none), (3, .lref 0 0 3 0), (6, I (0)), (7, I (0)), (8, .lref 1 0 2 0), (10, I (0 : Nat))], [(0, ⟨[zt p], 3, false⟩), (1, ⟨[.agg [I (one1).n, I (one1).d]], 2, false⟩)], 2, 0⟩) lk94_5 (by kernel_rfl) (L94_5 p ax es l nl sz _ _ hes h114 hnl hsz hl.2 (fun q st h1 h2 h3 h4 h5 => by simp only [bW, if_true, Nat.reduceEqDiff, if_false]; exact hret q st h1 h2 h3 h4 h5) l 0 one1 0 0 rfl (Nat.zero_le _) ⟨by decide, by decide, by decide, by decide⟩ (fun s a q h => ?_) (fun h => by
        have h : goG es timM l true one1 0 0 = none := h
        rw [h]; rfl))
    have h : goG es timM l true one1 0 0 = some (s, a, q) := h
    rw [h]
    simp only [bW, if_true, Nat.reduceEqDiff, if_false]
    repeat' first
      | (intro hb; first | cases hb | skip)
      | ((first | apply z8 | apply ze)
         · rfl
         · simp (disch := assumption) only [go_sem, Nat.reduceEqDiff, Nat.reduceAdd, bP, zf, Nat.reduceLeDiff, Nat.reduceLT, Nat.reduceMul, List.length_append, decide_eq_true_eq, z9, z6, Int.reduceToNat, Int.reduceLE, Int.reduceLT, Int.reduceBNe, Int.reduceBEq]
           rfl
         · simp only [go_sem, Nat.reduceLT, Nat.reduceEqDiff]
           rfl
         · rfl
         first
         | (apply zd
            · simp only [z5, z0, Nat.reduceLT, decide_true, cond_true, ins]
              rfl
            · simp only [z5, z0, Nat.reduceLT, decide_true, cond_true, ins]
              rfl)
         | (apply zh
            · simp only [z5, z0, Nat.reduceLT, decide_true, cond_true, ins]
              rfl))
      | ((first | apply zb | apply zc)
         · rfl
         · simp only [z5, z0, Nat.reduceLT, decide_true, cond_true, ins]
           rfl)
      | (apply za
         · simp only [go_sem, Nat.reduceEqDiff])
      | (apply z7
         · simp only [go_sem, Nat.reduceEqDiff])
      | (apply zg
         · kernel_rfl
         · kernel_rfl)
      | (simp only [bW, if_true, Nat.reduceEqDiff, if_false])
    all_goals (subst hF; simp only [go_sem, Nat.reduceEqDiff, bP, Nat.reduceAdd, Nat.reduceLeDiff, List.length_map, Tryd.f94, chainD])
  · have hfo : chainO p ax l = none := by unfold chainO; rw [if_neg hl]
    rw [hfo]
    refine ⟨one1, ?_⟩
    by_cases h1 : l.length < 1
    · have c1 : decide ((l.length : Int) < 1) = true := by simp; omega
      refine zm (zj 94) cfn94 rfl (n := 65) rfl ?_
      simp only [bW, if_true, Nat.reduceEqDiff, if_false, zl]
      repeat' first
        | (intro hb; first | cases hb | skip)
        | ((first | apply z8 | apply ze)
           · rfl
           · simp (disch := assumption) only [go_sem, Nat.reduceEqDiff, Nat.reduceAdd, bP, zf, Nat.reduceLeDiff, Nat.reduceLT, Nat.reduceMul, List.length_append, decide_eq_true_eq, z9, z6, Int.reduceToNat, Int.reduceLE, Int.reduceLT, Int.reduceBNe, Int.reduceBEq, hlw, c1]
             rfl
           · simp only [go_sem, Nat.reduceLT, Nat.reduceEqDiff]
             rfl
           · rfl
           first
           | (apply zd
              · simp only [z5, z0, Nat.reduceLT, decide_true, cond_true, ins]
                rfl
              · simp only [z5, z0, Nat.reduceLT, decide_true, cond_true, ins]
                rfl)
           | (apply zh
              · simp only [z5, z0, Nat.reduceLT, decide_true, cond_true, ins]
                rfl))
        | ((first | apply zb | apply zc)
           · rfl
           · simp only [z5, z0, Nat.reduceLT, decide_true, cond_true, ins]
             rfl)
        | (apply za
           · simp only [go_sem, Nat.reduceEqDiff])
        | (apply z7
           · simp only [go_sem, Nat.reduceEqDiff])
        | (apply zg
           · kernel_rfl
           · kernel_rfl)
        | (simp only [bW, if_true, Nat.reduceEqDiff, if_false])
      all_goals try simp only [go_sem, Nat.reduceEqDiff, bP, Nat.reduceAdd, Nat.reduceLeDiff, List.length_map, Tryd.f94, chainD, one1]
      all_goals first | done | rfl | (simp_all []; done) | trace_state
    · have c1 : decide ((l.length : Int) < 1) = false := by simp; omega
      have c2 : decide ((l.length : Int) > 5) = true := by simp; omega
      refine zm (zj 94) cfn94 rfl (n := 65) rfl ?_
      simp only [bW, if_true, Nat.reduceEqDiff, if_false, zl]
      repeat' first
        | (intro hb; first | cases hb | skip)
        | ((first | apply z8 | apply ze)
           · rfl
           · simp (disch := assumption) only [go_sem, Nat.reduceEqDiff, Nat.reduceAdd, bP, zf, Nat.reduceLeDiff, Nat.reduceLT, Nat.reduceMul, List.length_append, decide_eq_true_eq, z9, z6, Int.reduceToNat, Int.reduceLE, Int.reduceLT, Int.reduceBNe, Int.reduceBEq, hlw, c1, c2]
             rfl
           · simp only [go_sem, Nat.reduceLT, Nat.reduceEqDiff]
             rfl
           · rfl
           first
           | (apply zd
              · simp only [z5, z0, Nat.reduceLT, decide_true, cond_true, ins]
                rfl
              · simp only [z5, z0, Nat.reduceLT, decide_true, cond_true, ins]
                rfl)
           | (apply zh
              · simp only [z5, z0, Nat.reduceLT, decide_true, cond_true, ins]
                rfl))
        | ((first | apply zb | apply zc)
           · rfl
           · simp only [z5, z0, Nat.reduceLT, decide_true, cond_true, ins]
             rfl)
        | (apply za
           · simp only [go_sem, Nat.reduceEqDiff])
        | (apply z7
           · simp only [go_sem, Nat.reduceEqDiff])
        | (apply zg
           · kernel_rfl
           · kernel_rfl)
        | (simp only [bW, if_true, Nat.reduceEqDiff, if_false])
      all_goals try simp only [go_sem, Nat.reduceEqDiff, bP, Nat.reduceAdd, Nat.reduceLeDiff, List.length_map, Tryd.f94, chainD, one1]
      all_goals first | done | rfl | (simp_all []; done) | trace_state

end Go.VS
namespace Go.VS
open Go Go.Proofs
set_option maxHeartbeats 0
set_option linter.unusedSimpArgs false

noncomputable def lp45_5 : Code := zz [1, 1, 0, 1, 0, 0] (zo Tryd.f45)
theorem lk45_5 : cfg.keep 45 (zr lp45_5) = [1, 2, 6] := by kernel_rfl

def clashOK (p : Paper) (l : List Reason) : Bool := ans92 (followO p 0 l) || ans92 (followO p 1 l)
def clashC (p : Paper) (l : List Reason) : Int := if zn p then (if clashOK p l then 0 else 32) else 30
theorem t44 (p : Paper) (l : List Reason) (nl : Bool) (sz : Nat) (hwf : p.wf) (hnl : nl = true → l = []) (hsz : nl = false → sz = 3) (hll : l.length ≤ 9223372036854775807) : (lim cfg).pure 44 [zt p, .sl nl (l.map encW) sz none] = some (I (clashC p l)) := by
  have h15 := t15 p hwf
  unfold check at h15
  unfold clashC clashOK
  cases hok : zn p with
  | false =>
    rw [hok] at h15
    simp only [Bool.false_eq_true, if_false] at h15 ⊢
    refine zm (zj 44) cfn44 rfl (n := 24) rfl ?_
    simp only [bW, if_true, Nat.reduceEqDiff, if_false, zl]
    repeat' first
      | (intro hb; first | cases hb | skip)
      | ((first | apply z8 | apply ze)
         · rfl
         · simp (disch := assumption) only [go_sem, Nat.reduceEqDiff, Nat.reduceAdd, bP, zf, Nat.reduceLeDiff, Nat.reduceLT, Nat.reduceMul, List.length_append, decide_eq_true_eq, z9, z6, Int.reduceToNat, Int.reduceLE, Int.reduceLT, Int.reduceBNe, Int.reduceBEq, h15]
           rfl
         · simp only [go_sem, Nat.reduceLT, Nat.reduceEqDiff]
           rfl
         · rfl
         first
         | (apply zd
            · simp only [z5, z0, Nat.reduceLT, decide_true, cond_true, ins]
              rfl
            · simp only [z5, z0, Nat.reduceLT, decide_true, cond_true, ins]
              rfl)
         | (apply zh
            · simp only [z5, z0, Nat.reduceLT, decide_true, cond_true, ins]
              rfl))
      | ((first | apply zb | apply zc)
         · rfl
         · simp only [z5, z0, Nat.reduceLT, decide_true, cond_true, ins]
           rfl)
      | (apply za
         · simp only [go_sem, Nat.reduceEqDiff])
      | (apply z7
         · simp only [go_sem, Nat.reduceEqDiff])
      | (apply zg
         · kernel_rfl
         · kernel_rfl)
      | (simp only [bW, if_true, Nat.reduceEqDiff, if_false])
    all_goals try simp only [go_sem, Nat.reduceEqDiff, bP, Nat.reduceAdd, Nat.reduceLeDiff, List.length_map, Tryd.f44]
    all_goals first | done | rfl | (simp_all []; done) | trace_state
  | true =>
    rw [hok] at h15
    simp only [if_true] at h15 ⊢
    have e0 := t93_92 p 0 l nl sz hwf hok hnl hsz hll
    have e1 := t93_92 p 1 l nl sz hwf hok hnl hsz hll
    cases h0 : ans92 (followO p 0 l) <;> cases h1 : ans92 (followO p 1 l) <;> rw [h0] at e0 <;> rw [h1] at e1
    all_goals
      refine zm (zj 44) cfn44 rfl (n := 24) rfl ?_
      simp only [bW, if_true, Nat.reduceEqDiff, if_false, zl]
      repeat' first
        | (intro hb; first | cases hb | skip)
        | ((first | apply z8 | apply ze)
           · rfl
           · simp (disch := assumption) only [go_sem, Nat.reduceEqDiff, Nat.reduceAdd, bP, zf, Nat.reduceLeDiff, Nat.reduceLT, Nat.reduceMul, List.length_append, decide_eq_true_eq, z9, z6, Int.reduceToNat, Int.reduceLE, Int.reduceLT, Int.reduceBNe, Int.reduceBEq, h15, e0, e1]
             rfl
           · simp only [go_sem, Nat.reduceLT, Nat.reduceEqDiff]
             rfl
           · rfl
           first
           | (apply zd
              · simp only [z5, z0, Nat.reduceLT, decide_true, cond_true, ins]
                rfl
              · simp only [z5, z0, Nat.reduceLT, decide_true, cond_true, ins]
                rfl)
           | (apply zh
              · simp only [z5, z0, Nat.reduceLT, decide_true, cond_true, ins]
                rfl))
        | ((first | apply zb | apply zc)
           · rfl
           · simp only [z5, z0, Nat.reduceLT, decide_true, cond_true, ins]
             rfl)
        | (apply za
           · simp only [go_sem, Nat.reduceEqDiff])
        | (apply z7
           · simp only [go_sem, Nat.reduceEqDiff])
        | (apply zg
           · kernel_rfl
           · kernel_rfl)
        | (simp only [bW, if_true, Nat.reduceEqDiff, if_false])
      all_goals try simp only [go_sem, Nat.reduceEqDiff, bP, Nat.reduceAdd, Nat.reduceLeDiff, List.length_map, Tryd.f44]
      all_goals first | done | rfl | (simp_all []; done) | trace_state

theorem x94 (p : Paper) (ax : Int) (l : List Reason) (nl : Bool) (sz : Nat) (hwf : p.wf) (hnl : nl = true → l = []) (hsz : nl = false → sz = 3) (hll : l.length ≤ 9223372036854775807) (hok : zn p = true) : ∃ (s a : Int) (q : Ratio) (ok : Bool), (lim cfg).pure 94 [zt p, I ax, .sl nl (l.map encW) sz none] = some (.tup [I s, I a, .agg [I q.n, I q.d], B ok]) ∧ (ok && ((s == a) && decide (q.n < q.d))) = ans92 (followO p ax l) ∧
    (ok = true → 1 ≤ q.n ∧ q.n ≤ 32000000000000000 ∧ 1 ≤ q.d ∧ q.d ≤ 32000000000000000) ∧
    ∀ (g : Bool) (sh : Int) (bd : Ratio), 0 ≤ sh → sh < p.sheets → (ok && (if g then (s == sh) && ((a == p.sheets) && leR q bd) else (s == p.sheets) && ((a == sh) && leR q ⟨bd.d, bd.n⟩))) = ans96 g sh bd (followO p ax l) := by
  obtain ⟨w, h⟩ := t94 p ax l nl sz hwf hok hnl hsz hll
  rw [chain_follow hok] at h
  cases hf : followO p ax l with
  | none =>
    rw [hf] at h
    exact ⟨0, 0, w, false, h, rfl, by simp, fun _ _ _ _ _ => rfl⟩
  | some t =>
    obtain ⟨s, a, q⟩ := t
    rw [hf] at h
    obtain ⟨r1, r2, r3, r4, r5⟩ := follow_inv hok hf
    refine ⟨sigI p.sheets s, sigI p.sheets a, q, true, h, ?_, fun _ => ⟨r1.1, r4, r1.2.1, r5⟩, fun g sh bd hs0 hs1 => ?_⟩
    · simp only [ans92, Bool.true_and]
      rw [show (sigI p.sheets s == sigI p.sheets a) = (s == a) by rw [Bool.eq_iff_iff, beq_iff_eq, beq_iff_eq]; exact sigI_inj r2 r3]
      congr 1
      unfold ltR one1
      rw [decide_eq_decide]
      simp
    · have k1 : ∀ z : Int, 0 ≤ z ∧ z ≤ p.sheets → (sigI p.sheets z == sh) = (z == 1 + sh) := by
        intro z hz
        rw [Bool.eq_iff_iff, beq_iff_eq, beq_iff_eq]
        unfold sigI
        split <;> omega
      have k2 : ∀ z : Int, 0 ≤ z ∧ z ≤ p.sheets → (sigI p.sheets z == p.sheets) = (z == 0) := by
        intro z hz
        rw [Bool.eq_iff_iff, beq_iff_eq, beq_iff_eq]
        unfold sigI
        split <;> omega
      simp only [ans96, proves, Bool.true_and]
      rw [k1 s r2, k1 a r3, k2 s r2, k2 a r3]
theorem L45_5 {F : Exit → St → Option D} (p : Paper) (l : List Reason) (nl : Bool) (sz : Nat) (ax s a : Int) (q : Ratio) (ok : Bool) (k : List Kt) (x : D) (h94 : (lim cfg).pure 94 [zt p, I ax, .sl nl (l.map encW) sz none] = some (.tup [I s, I a, .agg [I q.n, I q.d], B ok])) (hax0 : 0 ≤ ax) (hax : ax < 2) (hk : ∀ st, get st.tmps 4 = I 0 → zB cfg (lim cfg) 45 F k .ret st = some (I 0))
    (h1 : (ok && ((s == a) && decide (q.n < q.d))) = true → x = I 0) (h0 : (ok && ((s == a) && decide (q.n < q.d))) = false → EvL cfg (lim cfg) 45 F lp45_5 k ⟨42, [(1, .sl nl (l.map encW) sz none), (2, .lref 0 0 3 0), (6, I (ax + 1))], [(0, ⟨[zt p], 3, false⟩)], 1, 0⟩ = some x) : EvL cfg (lim cfg) 45 F lp45_5 k ⟨42, [(1, .sl nl (l.map encW) sz none), (2, .lref 0 0 3 0), (6, I (ax))], [(0, ⟨[zt p], 3, false⟩)], 1, 0⟩ = some x := by
  have hlt' : (ax < 2) = True := by simp [hax]
  have hw : IntKind.i64.wrap (ax + 1) = ax + 1 := wrap_i64 (by omega) (by omega)
  cases e1 : ok <;> cases e2 : (s == a) <;> cases e3 : decide (q.n < q.d) <;> rw [e1] at h94 <;> rw [e1, e2, e3] at h1 h0
  all_goals first
  | (rw [h1 rfl]; clear h0 h1
     refine zk ?_
     try dsimp only [lp45_5, zz, zo, Tryd.f45]
     simp only [bW, if_true, Nat.reduceEqDiff, if_false]
     repeat' first
       | (intro hb; first | cases hb | skip)
       | ((first | apply z8 | apply ze)
          · rfl
          · simp (disch := assumption) only [go_sem, Nat.reduceEqDiff, Nat.reduceAdd, bP, zf, Nat.reduceLeDiff, Nat.reduceLT, Nat.reduceMul, List.length_append, decide_eq_true_eq, z9, z6, Int.reduceToNat, Int.reduceLE, Int.reduceLT, Int.reduceBNe, Int.reduceBEq, hlt', h94, e2, e3, hw]
            rfl
          · simp only [go_sem, Nat.reduceLT, Nat.reduceEqDiff]
            rfl
          · rfl
          first
          | (apply zd
             · simp only [z5, z0, Nat.reduceLT, decide_true, cond_true, ins]
               rfl
             · simp only [z5, z0, Nat.reduceLT, decide_true, cond_true, ins]
               rfl)
          | (apply zh
             · simp only [z5, z0, Nat.reduceLT, decide_true, cond_true, ins]
               rfl))
       | ((first | apply zb | apply zc)
          · rfl
          · simp only [z5, z0, Nat.reduceLT, decide_true, cond_true, ins]
            rfl)
       | (apply za
          · simp only [go_sem, Nat.reduceEqDiff])
       | (apply z7
          · simp only [go_sem, Nat.reduceEqDiff])
       | (apply zg
          · kernel_rfl
          · kernel_rfl)
       | (simp only [bW, if_true, Nat.reduceEqDiff, if_false])
     exact hk _ rfl)
  | (have h0 := h0 rfl
     clear h1
     refine zk ?_
     try dsimp only [lp45_5, zz, zo, Tryd.f45]
     simp only [bW, if_true, Nat.reduceEqDiff, if_false]
     repeat' first
       | (intro hb; first | cases hb | skip)
       | ((first | apply z8 | apply ze)
          · rfl
          · simp (disch := assumption) only [go_sem, Nat.reduceEqDiff, Nat.reduceAdd, bP, zf, Nat.reduceLeDiff, Nat.reduceLT, Nat.reduceMul, List.length_append, decide_eq_true_eq, z9, z6, Int.reduceToNat, Int.reduceLE, Int.reduceLT, Int.reduceBNe, Int.reduceBEq, hlt', h94, e2, e3, hw]
            rfl
          · simp only [go_sem, Nat.reduceLT, Nat.reduceEqDiff]
            rfl
          · rfl
          first
          | (apply zd
             · simp only [z5, z0, Nat.reduceLT, decide_true, cond_true, ins]
               rfl
             · simp only [z5, z0, Nat.reduceLT, decide_true, cond_true, ins]
               rfl)
          | (apply zh
             · simp only [z5, z0, Nat.reduceLT, decide_true, cond_true, ins]
               rfl))
       | ((first | apply zb | apply zc)
          · rfl
          · simp only [z5, z0, Nat.reduceLT, decide_true, cond_true, ins]
            rfl)
       | (apply za
          · simp only [go_sem, Nat.reduceEqDiff])
       | (apply z7
          · simp only [go_sem, Nat.reduceEqDiff])
       | (apply zg
          · kernel_rfl
          · kernel_rfl)
       | (simp only [bW, if_true, Nat.reduceEqDiff, if_false])
     exact zu (st1 := ⟨42, [(1, .sl nl (l.map encW) sz none), (2, .lref 0 0 3 0), (6, I (ax + 1))], [(0, ⟨[zt p], 3, false⟩)], 1, 0⟩) lk45_5 (by kernel_rfl) h0)
theorem t45 (p : Paper) (l : List Reason) (nl : Bool) (sz : Nat) (hwf : p.wf) (hnl : nl = true → l = []) (hsz : nl = false → sz = 3) (hll : l.length ≤ 9223372036854775807) : (lim cfg).pure 45 [zt p, .sl nl (l.map encW) sz none] = some (I (clashC p l)) := by
  have h28 := t28 p hwf
  unfold check at h28
  unfold clashC clashOK
  cases hok : zn p with
  | false =>
    rw [hok] at h28
    simp only [Bool.false_eq_true, if_false] at h28 ⊢
    refine zm (zj 45) cfn45 rfl (n := 42) rfl ?_
    simp only [bW, if_true, Nat.reduceEqDiff, if_false, zl]
    repeat' first
      | (intro hb; first | cases hb | skip)
      | ((first | apply z8 | apply ze)
         · rfl
         · simp (disch := assumption) only [go_sem, Nat.reduceEqDiff, Nat.reduceAdd, bP, zf, Nat.reduceLeDiff, Nat.reduceLT, Nat.reduceMul, List.length_append, decide_eq_true_eq, z9, z6, Int.reduceToNat, Int.reduceLE, Int.reduceLT, Int.reduceBNe, Int.reduceBEq, h28]
           rfl
         · simp only [go_sem, Nat.reduceLT, Nat.reduceEqDiff]
           rfl
         · rfl
         first
         | (apply zd
            · simp only [z5, z0, Nat.reduceLT, decide_true, cond_true, ins]
              rfl
            · simp only [z5, z0, Nat.reduceLT, decide_true, cond_true, ins]
              rfl)
         | (apply zh
            · simp only [z5, z0, Nat.reduceLT, decide_true, cond_true, ins]
              rfl))
      | ((first | apply zb | apply zc)
         · rfl
         · simp only [z5, z0, Nat.reduceLT, decide_true, cond_true, ins]
           rfl)
      | (apply za
         · simp only [go_sem, Nat.reduceEqDiff])
      | (apply z7
         · simp only [go_sem, Nat.reduceEqDiff])
      | (apply zg
         · kernel_rfl
         · kernel_rfl)
      | (simp only [bW, if_true, Nat.reduceEqDiff, if_false])
    all_goals try simp only [go_sem, Nat.reduceEqDiff, bP, Nat.reduceAdd, Nat.reduceLeDiff, List.length_map, Tryd.f45]
    all_goals first | done | rfl | (simp_all []; done) | trace_state
  | true =>
    rw [hok] at h28
    simp only [if_true] at h28 ⊢
    obtain ⟨s, a, q, ok, e1, e2, -, -⟩ := x94 p 0 l nl sz hwf hnl hsz hll hok
    obtain ⟨s', a', q', ok', e3, e4, -, -⟩ := x94 p 1 l nl sz hwf hnl hsz hll hok
    rw [← e2, ← e4]
    refine zm (zj 45) cfn45 rfl (n := 42) rfl ?_
    generalize hF : finP cfg Tryd.f45 = F
    simp only [bW, if_true, Nat.reduceEqDiff, if_false, zl]
    have hret : ∀ (v : Int) st, get st.tmps 4 = I v → F .ret st = some (I v) := by
      intro v st h
      subst hF
      simp only [go_sem, Nat.reduceEqDiff, bP, Nat.reduceAdd, Nat.reduceLeDiff, List.length_map, Tryd.f45, h]
    repeat' first
      | (intro hb; first | cases hb | skip)
      | ((first | apply z8 | apply ze)
         · rfl
         · simp (disch := assumption) only [go_sem, Nat.reduceEqDiff, Nat.reduceAdd, bP, zf, Nat.reduceLeDiff, Nat.reduceLT, Nat.reduceMul, List.length_append, decide_eq_true_eq, z9, z6, Int.reduceToNat, Int.reduceLE, Int.reduceLT, Int.reduceBNe, Int.reduceBEq, h28]
           rfl
         · simp only [go_sem, Nat.reduceLT, Nat.reduceEqDiff]
           rfl
         · rfl
         first
         | (apply zd
            · simp only [z5, z0, Nat.reduceLT, decide_true, cond_true, ins]
              rfl
            · simp only [z5, z0, Nat.reduceLT, decide_true, cond_true, ins]
              rfl)
         | (apply zh
            · simp only [z5, z0, Nat.reduceLT, decide_true, cond_true, ins]
              rfl))
      | ((first | apply zb | apply zc)
         · rfl
         · simp only [z5, z0, Nat.reduceLT, decide_true, cond_true, ins]
           rfl)
      | (apply za
         · simp only [go_sem, Nat.reduceEqDiff])
      | (apply z7
         · simp only [go_sem, Nat.reduceEqDiff])
      | (apply zg
         · kernel_rfl
         · kernel_rfl)
      | (simp only [bW, if_true, Nat.reduceEqDiff, if_false])
    refine zS (st1 := ⟨42, [(1, .sl nl (l.map encW) sz none), (2, .lref 0 0 3 0), (6, I (0))], [(0, ⟨[zt p], 3, false⟩)], 1, 0⟩) lk45_5 (by kernel_rfl) (L45_5 p l nl sz 0 s a q ok _ _ e1 (by omega) (by omega) (fun st h => by simp only [bW, if_true, Nat.reduceEqDiff, if_false]; exact hret 0 st h) (fun h => by rw [h]; rfl) (fun h => ?_))
    rw [h, Bool.false_or]
    refine L45_5 p l nl sz 1 s' a' q' ok' _ _ e3 (by omega) (by omega) (fun st h => by simp only [bW, if_true, Nat.reduceEqDiff, if_false]; exact hret 0 st h) (fun h => by rw [h]; rfl) (fun h => ?_)
    rw [h]
    refine zk ?_
    try dsimp only [lp45_5, zz, zo, Tryd.f45]
    simp only [bW, if_true, Nat.reduceEqDiff, if_false]
    repeat' first
      | (intro hb; first | cases hb | skip)
      | ((first | apply z8 | apply ze)
         · rfl
         · simp (disch := assumption) only [go_sem, Nat.reduceEqDiff, Nat.reduceAdd, bP, zf, Nat.reduceLeDiff, Nat.reduceLT, Nat.reduceMul, List.length_append, decide_eq_true_eq, z9, z6, Int.reduceToNat, Int.reduceLE, Int.reduceLT, Int.reduceBNe, Int.reduceBEq, Int.reduceAdd]
           rfl
         · simp only [go_sem, Nat.reduceLT, Nat.reduceEqDiff]
           rfl
         · rfl
         first
         | (apply zd
            · simp only [z5, z0, Nat.reduceLT, decide_true, cond_true, ins]
              rfl
            · simp only [z5, z0, Nat.reduceLT, decide_true, cond_true, ins]
              rfl)
         | (apply zh
            · simp only [z5, z0, Nat.reduceLT, decide_true, cond_true, ins]
              rfl))
      | ((first | apply zb | apply zc)
         · rfl
         · simp only [z5, z0, Nat.reduceLT, decide_true, cond_true, ins]
           rfl)
      | (apply za
         · simp only [go_sem, Nat.reduceEqDiff])
      | (apply z7
         · simp only [go_sem, Nat.reduceEqDiff])
      | (apply zg
         · kernel_rfl
         · kernel_rfl)
      | (simp only [bW, if_true, Nat.reduceEqDiff, if_false])
    exact hret 32 _ rfl
def proofC (p : Paper) (sh ax : Int) (g : Bool) (bd : Ratio) (l : List Reason) : Int := if zn p then (if zw p sh && isAxis ax && ratioOK bd then (if ans96 g sh bd (followO p ax l) then 0 else 32) else 1) else 30
theorem named_iff (p : Paper) (sh ax : Int) : (namedF p ax [sh] != 0) = !(zw p sh && isAxis ax) := by
  unfold namedF
  simp only [List.all_cons, List.all_nil, Bool.and_true]
  cases zw p sh && isAxis ax <;> rfl
theorem t46 (p : Paper) (sh ax : Int) (g : Bool) (bd : Ratio) (l : List Reason) (nl : Bool) (sz : Nat) (hwf : p.wf) (hnl : nl = true → l = []) (hsz : nl = false → sz = 3) (hll : l.length ≤ 9223372036854775807) : (lim cfg).pure 46 [zt p, I sh, I ax, B g, .agg [I bd.n, I bd.d], .sl nl (l.map encW) sz none] = some (I (proofC p sh ax g bd l)) := by
  have h15 := t15 p hwf
  have h95 := t95 p ax false [sh] 1 (by simp) (by simp) (by simp)
  have h66 := t66' bd
  simp only [List.map_cons, List.map_nil] at h95
  have hn := named_iff p sh ax
  unfold check at h15
  unfold proofC
  cases hok : zn p with
  | false =>
    rw [hok] at h15
    simp only [Bool.false_eq_true, if_false] at h15 ⊢
    refine zm (zj 46) cfn46 rfl (n := 40) rfl ?_
    simp only [bW, if_true, Nat.reduceEqDiff, if_false, zl]
    repeat' first
      | (intro hb; first | cases hb | skip)
      | ((first | apply z8 | apply ze)
         · rfl
         · simp (disch := assumption) only [go_sem, Nat.reduceEqDiff, Nat.reduceAdd, bP, zf, Nat.reduceLeDiff, Nat.reduceLT, Nat.reduceMul, List.length_append, decide_eq_true_eq, z9, z6, Int.reduceToNat, Int.reduceLE, Int.reduceLT, Int.reduceBNe, Int.reduceBEq, h15]
           rfl
         · simp only [go_sem, Nat.reduceLT, Nat.reduceEqDiff]
           rfl
         · rfl
         first
         | (apply zd
            · simp only [z5, z0, Nat.reduceLT, decide_true, cond_true, ins]
              rfl
            · simp only [z5, z0, Nat.reduceLT, decide_true, cond_true, ins]
              rfl)
         | (apply zh
            · simp only [z5, z0, Nat.reduceLT, decide_true, cond_true, ins]
              rfl))
      | ((first | apply zb | apply zc)
         · rfl
         · simp only [z5, z0, Nat.reduceLT, decide_true, cond_true, ins]
           rfl)
      | (apply za
         · simp only [go_sem, Nat.reduceEqDiff])
      | (apply z7
         · simp only [go_sem, Nat.reduceEqDiff])
      | (apply zg
         · kernel_rfl
         · kernel_rfl)
      | (simp only [bW, if_true, Nat.reduceEqDiff, if_false])
    all_goals try simp only [go_sem, Nat.reduceEqDiff, bP, Nat.reduceAdd, Nat.reduceLeDiff, List.length_map, Tryd.f46]
    all_goals first | done | rfl | (simp_all []; done) | trace_state
  | true =>
    rw [hok] at h15
    simp only [if_true] at h15 ⊢
    cases h1 : zw p sh && isAxis ax with
    | false =>
      rw [h1] at hn
      simp only [Bool.false_and, Bool.false_eq_true, if_false, Bool.not_false] at hn ⊢
      refine zm (zj 46) cfn46 rfl (n := 40) rfl ?_
      simp only [bW, if_true, Nat.reduceEqDiff, if_false, zl]
      repeat' first
        | (intro hb; first | cases hb | skip)
        | ((first | apply z8 | apply ze)
           · rfl
           · simp (disch := assumption) only [go_sem, Nat.reduceEqDiff, Nat.reduceAdd, bP, zf, Nat.reduceLeDiff, Nat.reduceLT, Nat.reduceMul, List.length_append, decide_eq_true_eq, z9, z6, Int.reduceToNat, Int.reduceLE, Int.reduceLT, Int.reduceBNe, Int.reduceBEq, h15, h95, hn]
             rfl
           · simp only [go_sem, Nat.reduceLT, Nat.reduceEqDiff]
             rfl
           · rfl
           first
           | (apply zd
              · simp only [z5, z0, Nat.reduceLT, decide_true, cond_true, ins]
                rfl
              · simp only [z5, z0, Nat.reduceLT, decide_true, cond_true, ins]
                rfl)
           | (apply zh
              · simp only [z5, z0, Nat.reduceLT, decide_true, cond_true, ins]
                rfl))
        | ((first | apply zb | apply zc)
           · rfl
           · simp only [z5, z0, Nat.reduceLT, decide_true, cond_true, ins]
             rfl)
        | (apply za
           · simp only [go_sem, Nat.reduceEqDiff])
        | (apply z7
           · simp only [go_sem, Nat.reduceEqDiff])
        | (apply zg
           · kernel_rfl
           · kernel_rfl)
        | (simp only [bW, if_true, Nat.reduceEqDiff, if_false])
      all_goals try simp only [go_sem, Nat.reduceEqDiff, bP, Nat.reduceAdd, Nat.reduceLeDiff, List.length_map, Tryd.f46]
      all_goals first | done | rfl | (simp_all []; done) | trace_state
    | true =>
      rw [h1] at hn
      simp only [Bool.true_and, Bool.not_true] at hn ⊢
      cases h2 : ratioOK bd with
      | false =>
        rw [h2] at h66
        simp only [Bool.false_eq_true, if_false]
        refine zm (zj 46) cfn46 rfl (n := 40) rfl ?_
        simp only [bW, if_true, Nat.reduceEqDiff, if_false, zl]
        repeat' first
          | (intro hb; first | cases hb | skip)
          | ((first | apply z8 | apply ze)
             · rfl
             · simp (disch := assumption) only [go_sem, Nat.reduceEqDiff, Nat.reduceAdd, bP, zf, Nat.reduceLeDiff, Nat.reduceLT, Nat.reduceMul, List.length_append, decide_eq_true_eq, z9, z6, Int.reduceToNat, Int.reduceLE, Int.reduceLT, Int.reduceBNe, Int.reduceBEq, h15, h95, hn, h66]
               rfl
             · simp only [go_sem, Nat.reduceLT, Nat.reduceEqDiff]
               rfl
             · rfl
             first
             | (apply zd
                · simp only [z5, z0, Nat.reduceLT, decide_true, cond_true, ins]
                  rfl
                · simp only [z5, z0, Nat.reduceLT, decide_true, cond_true, ins]
                  rfl)
             | (apply zh
                · simp only [z5, z0, Nat.reduceLT, decide_true, cond_true, ins]
                  rfl))
          | ((first | apply zb | apply zc)
             · rfl
             · simp only [z5, z0, Nat.reduceLT, decide_true, cond_true, ins]
               rfl)
          | (apply za
             · simp only [go_sem, Nat.reduceEqDiff])
          | (apply z7
             · simp only [go_sem, Nat.reduceEqDiff])
          | (apply zg
             · kernel_rfl
             · kernel_rfl)
          | (simp only [bW, if_true, Nat.reduceEqDiff, if_false])
        all_goals try simp only [go_sem, Nat.reduceEqDiff, bP, Nat.reduceAdd, Nat.reduceLeDiff, List.length_map, Tryd.f46]
        all_goals first | done | rfl | (simp_all []; done) | trace_state
      | true =>
        rw [h2] at h66
        simp only [if_true]
        obtain ⟨o1, o2, -⟩ := zC hok
        have hsh : 0 ≤ sh ∧ sh < p.sheets := by simp [zw] at h1; exact h1.1
        have h93 := t93_96 g sh bd p ax l nl sz hwf hok hnl hsz hll h2 hsh.1 (by omega)
        cases h3 : ans96 g sh bd (followO p ax l) <;> rw [h3] at h93
        all_goals
          refine zm (zj 46) cfn46 rfl (n := 40) rfl ?_
          simp only [bW, if_true, Nat.reduceEqDiff, if_false, zl]
          repeat' first
            | (intro hb; first | cases hb | skip)
            | ((first | apply z8 | apply ze)
               · rfl
               · simp (disch := assumption) only [go_sem, Nat.reduceEqDiff, Nat.reduceAdd, bP, zf, Nat.reduceLeDiff, Nat.reduceLT, Nat.reduceMul, List.length_append, decide_eq_true_eq, z9, z6, Int.reduceToNat, Int.reduceLE, Int.reduceLT, Int.reduceBNe, Int.reduceBEq, h15, h95, hn, h66, h93]
                 rfl
               · simp only [go_sem, Nat.reduceLT, Nat.reduceEqDiff]
                 rfl
               · rfl
               first
               | (apply zd
                  · simp only [z5, z0, Nat.reduceLT, decide_true, cond_true, ins]
                    rfl
                  · simp only [z5, z0, Nat.reduceLT, decide_true, cond_true, ins]
                    rfl)
               | (apply zh
                  · simp only [z5, z0, Nat.reduceLT, decide_true, cond_true, ins]
                    rfl))
            | ((first | apply zb | apply zc)
               · rfl
               · simp only [z5, z0, Nat.reduceLT, decide_true, cond_true, ins]
                 rfl)
            | (apply za
               · simp only [go_sem, Nat.reduceEqDiff])
            | (apply z7
               · simp only [go_sem, Nat.reduceEqDiff])
            | (apply zg
               · kernel_rfl
               · kernel_rfl)
            | (simp only [bW, if_true, Nat.reduceEqDiff, if_false])
          all_goals try simp only [go_sem, Nat.reduceEqDiff, bP, Nat.reduceAdd, Nat.reduceLeDiff, List.length_map, Tryd.f46]
          all_goals first | done | rfl | (simp_all []; done) | trace_state

theorem t47 (p : Paper) (sh ax : Int) (g : Bool) (bd : Ratio) (l : List Reason) (nl : Bool) (sz : Nat) (hwf : p.wf) (hnl : nl = true → l = []) (hsz : nl = false → sz = 3) (hll : l.length ≤ 9223372036854775807) : (lim cfg).pure 47 [zt p, I sh, I ax, B g, .agg [I bd.n, I bd.d], .sl nl (l.map encW) sz none] = some (I (proofC p sh ax g bd l)) := by
  have h28 := t28 p hwf
  have h76 := t76 bd
  simp only [encR] at h76
  have h77 : (lim cfg).pure 77 [I ax, I 0, I 1] = some (B (isAxis ax)) := by
    rw [t77]; unfold isAxis; congr 3; rw [Bool.eq_iff_iff]; simp; omega
  have h77s : (lim cfg).pure 77 [I sh, I 0, I (p.sheets - 1)] = some (B (zw p sh)) := by
    rw [t77]; unfold zw; rw [show decide (sh ≤ p.sheets - 1) = decide (sh < p.sheets) by rw [decide_eq_decide]; omega]
  unfold check at h28
  unfold proofC
  cases hok : zn p with
  | false =>
    rw [hok] at h28
    simp only [Bool.false_eq_true, if_false] at h28 ⊢
    refine zm (zj 47) cfn47 rfl (n := 92) rfl ?_
    simp only [bW, if_true, Nat.reduceEqDiff, if_false, zl]
    repeat' first
      | (intro hb; first | cases hb | skip)
      | ((first | apply z8 | apply ze)
         · rfl
         · simp (disch := assumption) only [go_sem, Nat.reduceEqDiff, Nat.reduceAdd, bP, zf, Nat.reduceLeDiff, Nat.reduceLT, Nat.reduceMul, List.length_append, decide_eq_true_eq, z9, z6, Int.reduceToNat, Int.reduceLE, Int.reduceLT, Int.reduceBNe, Int.reduceBEq, h28]
           rfl
         · simp only [go_sem, Nat.reduceLT, Nat.reduceEqDiff]
           rfl
         · rfl
         first
         | (apply zd
            · simp only [z5, z0, Nat.reduceLT, decide_true, cond_true, ins]
              rfl
            · simp only [z5, z0, Nat.reduceLT, decide_true, cond_true, ins]
              rfl)
         | (apply zh
            · simp only [z5, z0, Nat.reduceLT, decide_true, cond_true, ins]
              rfl))
      | ((first | apply zb | apply zc)
         · rfl
         · simp only [z5, z0, Nat.reduceLT, decide_true, cond_true, ins]
           rfl)
      | (apply za
         · simp only [go_sem, Nat.reduceEqDiff])
      | (apply z7
         · simp only [go_sem, Nat.reduceEqDiff])
      | (apply zg
         · kernel_rfl
         · kernel_rfl)
      | (simp only [bW, if_true, Nat.reduceEqDiff, if_false])
    all_goals try simp only [go_sem, Nat.reduceEqDiff, bP, Nat.reduceAdd, Nat.reduceLeDiff, List.length_map, Tryd.f47]
    all_goals first | done | rfl | (simp_all []; done) | trace_state
  | true =>
    rw [hok] at h28
    simp only [if_true] at h28 ⊢
    obtain ⟨o1, o2, -⟩ := zC hok
    have hw : IntKind.i64.wrap (p.sheets - 1) = p.sheets - 1 := wrap_i64 (by omega) (by omega)
    cases h1 : zw p sh with
    | false =>
      rw [h1] at h77s
      simp only [Bool.false_and, Bool.false_eq_true, if_false]
      refine zm (zj 47) cfn47 rfl (n := 92) rfl ?_
      simp only [bW, if_true, Nat.reduceEqDiff, if_false, zl]
      repeat' first
        | (intro hb; first | cases hb | skip)
        | ((first | apply z8 | apply ze)
           · rfl
           · simp (disch := assumption) only [go_sem, Nat.reduceEqDiff, Nat.reduceAdd, bP, zf, Nat.reduceLeDiff, Nat.reduceLT, Nat.reduceMul, List.length_append, decide_eq_true_eq, z9, z6, Int.reduceToNat, Int.reduceLE, Int.reduceLT, Int.reduceBNe, Int.reduceBEq, h28, h77s, hw]
             rfl
           · simp only [go_sem, Nat.reduceLT, Nat.reduceEqDiff]
             rfl
           · rfl
           first
           | (apply zd
              · simp only [z5, z0, Nat.reduceLT, decide_true, cond_true, ins]
                rfl
              · simp only [z5, z0, Nat.reduceLT, decide_true, cond_true, ins]
                rfl)
           | (apply zh
              · simp only [z5, z0, Nat.reduceLT, decide_true, cond_true, ins]
                rfl))
        | ((first | apply zb | apply zc)
           · rfl
           · simp only [z5, z0, Nat.reduceLT, decide_true, cond_true, ins]
             rfl)
        | (apply za
           · simp only [go_sem, Nat.reduceEqDiff])
        | (apply z7
           · simp only [go_sem, Nat.reduceEqDiff])
        | (apply zg
           · kernel_rfl
           · kernel_rfl)
        | (simp only [bW, if_true, Nat.reduceEqDiff, if_false])
      all_goals try simp only [go_sem, Nat.reduceEqDiff, bP, Nat.reduceAdd, Nat.reduceLeDiff, List.length_map, Tryd.f47]
      all_goals first | done | rfl | (simp_all []; done) | trace_state
    | true =>
    rw [h1] at h77s
    simp only [Bool.true_and]
    cases h2 : isAxis ax with
    | false =>
      rw [h2] at h77
      simp only [Bool.false_and, Bool.false_eq_true, if_false]
      refine zm (zj 47) cfn47 rfl (n := 92) rfl ?_
      simp only [bW, if_true, Nat.reduceEqDiff, if_false, zl]
      repeat' first
        | (intro hb; first | cases hb | skip)
        | ((first | apply z8 | apply ze)
           · rfl
           · simp (disch := assumption) only [go_sem, Nat.reduceEqDiff, Nat.reduceAdd, bP, zf, Nat.reduceLeDiff, Nat.reduceLT, Nat.reduceMul, List.length_append, decide_eq_true_eq, z9, z6, Int.reduceToNat, Int.reduceLE, Int.reduceLT, Int.reduceBNe, Int.reduceBEq, h28, h77s, h77, hw]
             rfl
           · simp only [go_sem, Nat.reduceLT, Nat.reduceEqDiff]
             rfl
           · rfl
           first
           | (apply zd
              · simp only [z5, z0, Nat.reduceLT, decide_true, cond_true, ins]
                rfl
              · simp only [z5, z0, Nat.reduceLT, decide_true, cond_true, ins]
                rfl)
           | (apply zh
              · simp only [z5, z0, Nat.reduceLT, decide_true, cond_true, ins]
                rfl))
        | ((first | apply zb | apply zc)
           · rfl
           · simp only [z5, z0, Nat.reduceLT, decide_true, cond_true, ins]
             rfl)
        | (apply za
           · simp only [go_sem, Nat.reduceEqDiff])
        | (apply z7
           · simp only [go_sem, Nat.reduceEqDiff])
        | (apply zg
           · kernel_rfl
           · kernel_rfl)
        | (simp only [bW, if_true, Nat.reduceEqDiff, if_false])
      all_goals try simp only [go_sem, Nat.reduceEqDiff, bP, Nat.reduceAdd, Nat.reduceLeDiff, List.length_map, Tryd.f47]
      all_goals first | done | rfl | (simp_all []; done) | trace_state
    | true =>
    rw [h2] at h77
    simp only [Bool.true_and]
    cases h3 : ratioOK bd with
    | false =>
      rw [h3] at h76
      simp only [Bool.false_eq_true, if_false]
      refine zm (zj 47) cfn47 rfl (n := 92) rfl ?_
      simp only [bW, if_true, Nat.reduceEqDiff, if_false, zl]
      repeat' first
        | (intro hb; first | cases hb | skip)
        | ((first | apply z8 | apply ze)
           · rfl
           · simp (disch := assumption) only [go_sem, Nat.reduceEqDiff, Nat.reduceAdd, bP, zf, Nat.reduceLeDiff, Nat.reduceLT, Nat.reduceMul, List.length_append, decide_eq_true_eq, z9, z6, Int.reduceToNat, Int.reduceLE, Int.reduceLT, Int.reduceBNe, Int.reduceBEq, h28, h77s, h77, hw, h76]
             rfl
           · simp only [go_sem, Nat.reduceLT, Nat.reduceEqDiff]
             rfl
           · rfl
           first
           | (apply zd
              · simp only [z5, z0, Nat.reduceLT, decide_true, cond_true, ins]
                rfl
              · simp only [z5, z0, Nat.reduceLT, decide_true, cond_true, ins]
                rfl)
           | (apply zh
              · simp only [z5, z0, Nat.reduceLT, decide_true, cond_true, ins]
                rfl))
        | ((first | apply zb | apply zc)
           · rfl
           · simp only [z5, z0, Nat.reduceLT, decide_true, cond_true, ins]
             rfl)
        | (apply za
           · simp only [go_sem, Nat.reduceEqDiff])
        | (apply z7
           · simp only [go_sem, Nat.reduceEqDiff])
        | (apply zg
           · kernel_rfl
           · kernel_rfl)
        | (simp only [bW, if_true, Nat.reduceEqDiff, if_false])
      all_goals try simp only [go_sem, Nat.reduceEqDiff, bP, Nat.reduceAdd, Nat.reduceLeDiff, List.length_map, Tryd.f47]
      all_goals first | done | rfl | (simp_all []; done) | trace_state
    | true =>
    rw [h3] at h76
    simp only [if_true]
    have hsh : 0 ≤ sh ∧ sh < p.sheets := by simp [zw] at h1; exact h1
    obtain ⟨s, a, q, ok, e1, -, e3, e4⟩ := x94 p ax l nl sz hwf hnl hsz hll hok
    rw [← e4 g sh bd hsh.1 hsh.2]
    clear e4
    cases ok with
    | false =>
      rw [Bool.false_and]
      simp only [Bool.false_eq_true, if_false]
      refine zm (zj 47) cfn47 rfl (n := 92) rfl ?_
      simp only [bW, if_true, Nat.reduceEqDiff, if_false, zl]
      repeat' first
        | (intro hb; first | cases hb | skip)
        | ((first | apply z8 | apply ze)
           · rfl
           · simp (disch := assumption) only [go_sem, Nat.reduceEqDiff, Nat.reduceAdd, bP, zf, Nat.reduceLeDiff, Nat.reduceLT, Nat.reduceMul, List.length_append, decide_eq_true_eq, z9, z6, Int.reduceToNat, Int.reduceLE, Int.reduceLT, Int.reduceBNe, Int.reduceBEq, h28, h77s, h77, hw, h76, e1]
             rfl
           · simp only [go_sem, Nat.reduceLT, Nat.reduceEqDiff]
             rfl
           · rfl
           first
           | (apply zd
              · simp only [z5, z0, Nat.reduceLT, decide_true, cond_true, ins]
                rfl
              · simp only [z5, z0, Nat.reduceLT, decide_true, cond_true, ins]
                rfl)
           | (apply zh
              · simp only [z5, z0, Nat.reduceLT, decide_true, cond_true, ins]
                rfl))
        | ((first | apply zb | apply zc)
           · rfl
           · simp only [z5, z0, Nat.reduceLT, decide_true, cond_true, ins]
             rfl)
        | (apply za
           · simp only [go_sem, Nat.reduceEqDiff])
        | (apply z7
           · simp only [go_sem, Nat.reduceEqDiff])
        | (apply zg
           · kernel_rfl
           · kernel_rfl)
        | (simp only [bW, if_true, Nat.reduceEqDiff, if_false])
      all_goals try simp only [go_sem, Nat.reduceEqDiff, bP, Nat.reduceAdd, Nat.reduceLeDiff, List.length_map, Tryd.f47]
      all_goals first | done | rfl | (simp_all []; done) | trace_state
    | true =>
    rw [Bool.true_and]
    obtain ⟨r1, r2, r3, r4⟩ := e3 rfl
    obtain ⟨p1, p2⟩ := ratio_p63 h3
    have hb : 1 ≤ bd.n ∧ 1 ≤ bd.d := by simp [ratioOK] at h3; exact ⟨h3.1.1.1, h3.1.2⟩
    have h23 := t23i q.n q.d bd.n bd.d (by omega) (by omega) r3 (by omega) p1.1 p1.2 hb.2 p2.2
    have h23' := t23i q.n q.d bd.d bd.n (by omega) (by omega) r3 (by omega) p2.1 p2.2 hb.1 p1.2
    have hl := cmp_le q bd
    have hl' := cmp_le q ⟨bd.d, bd.n⟩
    simp only [] at hl'
    cases g with
    | true =>
      simp only [if_true]
      cases f1 : (s == sh) <;> cases f2 : (a == p.sheets) <;> cases f3 : leR q bd <;> rw [f3] at hl
      all_goals
        refine zm (zj 47) cfn47 rfl (n := 92) rfl ?_
        simp only [bW, if_true, Nat.reduceEqDiff, if_false, zl]
        repeat' first
          | (intro hb; first | cases hb | skip)
          | ((first | apply z8 | apply ze)
             · rfl
             · simp (disch := assumption) only [go_sem, Nat.reduceEqDiff, Nat.reduceAdd, bP, zf, Nat.reduceLeDiff, Nat.reduceLT, Nat.reduceMul, List.length_append, decide_eq_true_eq, z9, z6, Int.reduceToNat, Int.reduceLE, Int.reduceLT, Int.reduceBNe, Int.reduceBEq, h28, h77s, h77, hw, h76, e1, h23, hl, f1, f2]
               rfl
             · simp only [go_sem, Nat.reduceLT, Nat.reduceEqDiff]
               rfl
             · rfl
             first
             | (apply zd
                · simp only [z5, z0, Nat.reduceLT, decide_true, cond_true, ins]
                  rfl
                · simp only [z5, z0, Nat.reduceLT, decide_true, cond_true, ins]
                  rfl)
             | (apply zh
                · simp only [z5, z0, Nat.reduceLT, decide_true, cond_true, ins]
                  rfl))
          | ((first | apply zb | apply zc)
             · rfl
             · simp only [z5, z0, Nat.reduceLT, decide_true, cond_true, ins]
               rfl)
          | (apply za
             · simp only [go_sem, Nat.reduceEqDiff])
          | (apply z7
             · simp only [go_sem, Nat.reduceEqDiff])
          | (apply zg
             · kernel_rfl
             · kernel_rfl)
          | (simp only [bW, if_true, Nat.reduceEqDiff, if_false])
        all_goals try simp only [go_sem, Nat.reduceEqDiff, bP, Nat.reduceAdd, Nat.reduceLeDiff, List.length_map, Tryd.f47]
        all_goals first | done | rfl | (simp_all []; done) | trace_state
    | false =>
      simp only [Bool.false_eq_true, if_false]
      cases f1 : (s == p.sheets) <;> cases f2 : (a == sh) <;> cases f3 : leR q ⟨bd.d, bd.n⟩ <;> rw [f3] at hl'
      all_goals
        refine zm (zj 47) cfn47 rfl (n := 92) rfl ?_
        simp only [bW, if_true, Nat.reduceEqDiff, if_false, zl]
        repeat' first
          | (intro hb; first | cases hb | skip)
          | ((first | apply z8 | apply ze)
             · rfl
             · simp (disch := assumption) only [go_sem, Nat.reduceEqDiff, Nat.reduceAdd, bP, zf, Nat.reduceLeDiff, Nat.reduceLT, Nat.reduceMul, List.length_append, decide_eq_true_eq, z9, z6, Int.reduceToNat, Int.reduceLE, Int.reduceLT, Int.reduceBNe, Int.reduceBEq, h28, h77s, h77, hw, h76, e1, h23', hl', f1, f2, t98]
               rfl
             · simp only [go_sem, Nat.reduceLT, Nat.reduceEqDiff]
               rfl
             · rfl
             first
             | (apply zd
                · simp only [z5, z0, Nat.reduceLT, decide_true, cond_true, ins]
                  rfl
                · simp only [z5, z0, Nat.reduceLT, decide_true, cond_true, ins]
                  rfl)
             | (apply zh
                · simp only [z5, z0, Nat.reduceLT, decide_true, cond_true, ins]
                  rfl))
          | ((first | apply zb | apply zc)
             · rfl
             · simp only [z5, z0, Nat.reduceLT, decide_true, cond_true, ins]
               rfl)
          | (apply za
             · simp only [go_sem, Nat.reduceEqDiff])
          | (apply z7
             · simp only [go_sem, Nat.reduceEqDiff])
          | (apply zg
             · kernel_rfl
             · kernel_rfl)
          | (simp only [bW, if_true, Nat.reduceEqDiff, if_false])
        all_goals try simp only [go_sem, Nat.reduceEqDiff, bP, Nat.reduceAdd, Nat.reduceLeDiff, List.length_map, Tryd.f47]
        all_goals first | done | rfl | (simp_all []; done) | trace_state

end Go.VS
namespace Go.VS
open Go Go.Proofs
set_option maxHeartbeats 0
set_option linter.unusedSimpArgs false

noncomputable def lp16_2 : Code := zz [1, 0, 1, 0, 0] (zo Tryd.f16)
theorem lk16_2 : cfg.keep 16 (zr lp16_2) = [1, 2, 9, 10, 11] := by kernel_rfl
noncomputable def lp16_5 : Code := zz [1, 0, 1, 0, 0, 1, 1, 0, 0, 1, 1, 0, 0] (zo Tryd.f16)
theorem lk16_5 : cfg.keep 16 (zr lp16_5) = [1, 2, 9, 10, 11, 15, 16] := by kernel_rfl

def smallR (n d : Int) : Bool := decide (1 ≤ n) && decide (1 ≤ d) && decide (n ≤ 100000) && decide (d ≤ 100000)
def small4 (f : F4) : Bool := smallR f.xn f.xd && smallR f.yn f.yd
def plainF (p : Paper) (fs : List F4) : Bool := fs.all small4 && decide ((fs.length : Int) = p.sheets)

theorem L16_2 {F : Exit → St → Option D} (p : Paper) (fs : List F4) (nf : Bool) (sf : Nat) (k : List Kt) (x : D) (hnf : nf = true → fs = []) (hsf : nf = false → sf = 4) (hl : fs.length ≤ 9223372036854775807) (hk : ∀ st, get st.tmps 4 = B false → zB cfg (lim cfg) 16 F k .ret st = some (B false)) : ∀ (rest : List F4) (i : Nat), fs.drop i = rest → i ≤ fs.length →
    (rest.all small4 = true → zB cfg (lim cfg) 16 F k (.exit 0) ⟨44, [(12, B false), (1, .sl nf (fs.map zP) sf none), (2, .lref 0 0 3 0), (9, .sl nf (fs.map zP) sf none), (10, I fs.length), (11, I (fs.length : Nat))], [(0, ⟨[zt p], 3, false⟩)], 1, 0⟩ = some x) →
    (rest.all small4 = false → x = B false) →
    EvL cfg (lim cfg) 16 F lp16_2 k ⟨44, [(1, .sl nf (fs.map zP) sf none), (2, .lref 0 0 3 0), (9, .sl nf (fs.map zP) sf none), (10, I fs.length), (11, I (i : Nat))], [(0, ⟨[zt p], 3, false⟩)], 1, 0⟩ = some x := by
  intro rest
  induction rest with
  | nil =>
    intro i hd hi h h'
    have hi' : i = fs.length := by
      have := List.drop_eq_nil_iff.1 hd
      omega
    subst hi'
    refine zk ?_
    try dsimp only [lp16_2, zz, zo, Tryd.f16]
    simp only [bW, if_true, Nat.reduceEqDiff, if_false]
    repeat' first
      | (intro hb; first | cases hb | skip)
      | ((first | apply z8 | apply ze)
         · rfl
         · simp (disch := assumption) only [go_sem, Nat.reduceEqDiff, Nat.reduceAdd, bP, zf, Nat.reduceLeDiff, Nat.reduceLT, Nat.reduceMul, List.length_append, decide_eq_true_eq, z9, z6, Int.reduceToNat, Int.reduceLE, Int.reduceLT, Int.reduceBNe, Int.reduceBEq, Int.lt_irrefl]
           rfl
         · simp only [go_sem, Nat.reduceLT, Nat.reduceEqDiff]
           rfl
         · rfl
         first
         | (apply zd
            · simp only [z5, z0, Nat.reduceLT, decide_true, cond_true, ins]
              rfl
            · simp only [z5, z0, Nat.reduceLT, decide_true, cond_true, ins]
              rfl)
         | (apply zh
            · simp only [z5, z0, Nat.reduceLT, decide_true, cond_true, ins]
              rfl))
      | ((first | apply zb | apply zc)
         · rfl
         · simp only [z5, z0, Nat.reduceLT, decide_true, cond_true, ins]
           rfl)
      | (apply za
         · simp only [go_sem, Nat.reduceEqDiff])
      | (apply z7
         · simp only [go_sem, Nat.reduceEqDiff])
      | (apply zg
         · kernel_rfl
         · kernel_rfl)
      | (simp only [bW, if_true, Nat.reduceEqDiff, if_false])
    exact h rfl
  | cons f rest ih =>
    intro i hd hi h h'
    have hlt : i < fs.length := by
      rcases Nat.lt_or_ge i fs.length with h | h
      · exact h
      · rw [List.drop_eq_nil_of_le h] at hd; cases hd
    have hf : fs[i]? = some f := by rw [← List.head?_drop, hd]; rfl
    have hx : (fs.map zP)[i]? = some (.agg [I f.xn, I f.xd, I f.yn, I f.yd]) := by rw [List.getElem?_map, hf]; rfl
    have hnf' : nf = false := by
      cases h : nf with
      | false => rfl
      | true => rw [hnf h] at hlt; cases hlt
    have hs1 := hsf hnf'
    clear hsf
    subst hs1
    have hlt' : (i : Int) < (fs.length : Int) := by omega
    have hw3 : IntKind.i64.wrap ((i : Int) + 1) = ((i + 1 : Nat) : Int) := by rw [wrap_i64 (by omega) (by omega)]; omega
    cases h1 : smallR f.xn f.xd with
    | false =>
      rw [h' (by simp [small4, h1])]
      simp only [smallR, Bool.and_eq_false_iff, decide_eq_false_iff_not] at h1
      refine zk ?_
      try dsimp only [lp16_2, zz, zo, Tryd.f16]
      simp only [bW, if_true, Nat.reduceEqDiff, if_false]
      repeat' first
        | (intro hb; first | cases hb | skip)
        | ((first | apply z8 | apply ze)
           · rfl
           · simp (disch := assumption) only [go_sem, Nat.reduceEqDiff, Nat.reduceAdd, bP, zf, Nat.reduceLeDiff, Nat.reduceLT, Nat.reduceMul, List.length_append, decide_eq_true_eq, z9, z6, Int.reduceToNat, Int.reduceLE, Int.reduceLT, Int.reduceBNe, Int.reduceBEq, hx, hnf', hlt', hw3, show (0 : Nat) < 2 from by decide, show (1 : Nat) < 2 from by decide, show IntKind.i64.wrap (0 + 1) = 1 from by decide, show IntKind.i64.wrap (1 + 1) = 2 from by decide]
             rfl
           · simp only [go_sem, Nat.reduceLT, Nat.reduceEqDiff]
             rfl
           · rfl
           first
           | (apply zd
              · simp only [z5, z0, Nat.reduceLT, decide_true, cond_true, ins]
                rfl
              · simp only [z5, z0, Nat.reduceLT, decide_true, cond_true, ins]
                rfl)
           | (apply zh
              · simp only [z5, z0, Nat.reduceLT, decide_true, cond_true, ins]
                rfl))
        | ((first | apply zb | apply zc)
           · rfl
           · simp only [z5, z0, Nat.reduceLT, decide_true, cond_true, ins]
             rfl)
        | (apply za
           · simp only [go_sem, Nat.reduceEqDiff])
        | (apply z7
           · simp only [go_sem, Nat.reduceEqDiff])
        | (apply zg
           · kernel_rfl
           · kernel_rfl)
        | (simp only [bW, if_true, Nat.reduceEqDiff, if_false])
      refine zS (st1 := ⟨44, [(1, .sl nf (fs.map zP) 4 none), (2, .lref 0 0 3 0), (9, .sl nf (fs.map zP) 4 none), (10, I fs.length), (11, I (i : Nat)), (15, .agg [I f.xn, I f.xd, I f.yn, I f.yd]), (16, I 0)], [(0, ⟨[zt p], 3, false⟩)], 1, 0⟩) lk16_5 (by kernel_rfl) ?_
      refine zk ?_
      try dsimp only [lp16_5, zz, zo, Tryd.f16]
      simp only [bW, if_true, Nat.reduceEqDiff, if_false]
      repeat' first
        | (intro hb; first | cases hb | skip)
        | ((first | apply z8 | apply ze)
           · rfl
           · simp (disch := assumption) only [go_sem, Nat.reduceEqDiff, Nat.reduceAdd, bP, zf, Nat.reduceLeDiff, Nat.reduceLT, Nat.reduceMul, List.length_append, decide_eq_true_eq, z9, z6, Int.reduceToNat, Int.reduceLE, Int.reduceLT, Int.reduceBNe, Int.reduceBEq, hx, hnf', hlt', hw3, show (0 : Nat) < 2 from by decide, show (1 : Nat) < 2 from by decide, show IntKind.i64.wrap (0 + 1) = 1 from by decide, show IntKind.i64.wrap (1 + 1) = 2 from by decide]
             rfl
           · simp only [go_sem, Nat.reduceLT, Nat.reduceEqDiff]
             rfl
           · rfl
           first
           | (apply zd
              · simp only [z5, z0, Nat.reduceLT, decide_true, cond_true, ins]
                rfl
              · simp only [z5, z0, Nat.reduceLT, decide_true, cond_true, ins]
                rfl)
           | (apply zh
              · simp only [z5, z0, Nat.reduceLT, decide_true, cond_true, ins]
                rfl))
        | ((first | apply zb | apply zc)
           · rfl
           · simp only [z5, z0, Nat.reduceLT, decide_true, cond_true, ins]
             rfl)
        | (apply za
           · simp only [go_sem, Nat.reduceEqDiff])
        | (apply z7
           · simp only [go_sem, Nat.reduceEqDiff])
        | (apply zg
           · kernel_rfl
           · kernel_rfl)
        | (simp only [bW, if_true, Nat.reduceEqDiff, if_false])
      all_goals first | exact hk _ rfl | (exfalso; simp_all; omega)
    | true =>
      simp only [smallR, Bool.and_eq_true, decide_eq_true_eq] at h1
      have a1 : (f.xn < 1) = False := by simp; omega
      have a2 : (f.xd < 1) = False := by simp; omega
      have a3 : (f.xn > 100000) = False := by simp; omega
      have a4 : (f.xd > 100000) = False := by simp; omega
      cases h2 : smallR f.yn f.yd with
      | false =>
        rw [h' (by simp [small4, h2])]
        simp only [smallR, Bool.and_eq_false_iff, decide_eq_false_iff_not] at h2
        refine zk ?_
        try dsimp only [lp16_2, zz, zo, Tryd.f16]
        simp only [bW, if_true, Nat.reduceEqDiff, if_false]
        repeat' first
          | (intro hb; first | cases hb | skip)
          | ((first | apply z8 | apply ze)
             · rfl
             · simp (disch := assumption) only [go_sem, Nat.reduceEqDiff, Nat.reduceAdd, bP, zf, Nat.reduceLeDiff, Nat.reduceLT, Nat.reduceMul, List.length_append, decide_eq_true_eq, z9, z6, Int.reduceToNat, Int.reduceLE, Int.reduceLT, Int.reduceBNe, Int.reduceBEq, hx, hnf', hlt', hw3, show (0 : Nat) < 2 from by decide, show (1 : Nat) < 2 from by decide, show IntKind.i64.wrap (0 + 1) = 1 from by decide, show IntKind.i64.wrap (1 + 1) = 2 from by decide]
               rfl
             · simp only [go_sem, Nat.reduceLT, Nat.reduceEqDiff]
               rfl
             · rfl
             first
             | (apply zd
                · simp only [z5, z0, Nat.reduceLT, decide_true, cond_true, ins]
                  rfl
                · simp only [z5, z0, Nat.reduceLT, decide_true, cond_true, ins]
                  rfl)
             | (apply zh
                · simp only [z5, z0, Nat.reduceLT, decide_true, cond_true, ins]
                  rfl))
          | ((first | apply zb | apply zc)
             · rfl
             · simp only [z5, z0, Nat.reduceLT, decide_true, cond_true, ins]
               rfl)
          | (apply za
             · simp only [go_sem, Nat.reduceEqDiff])
          | (apply z7
             · simp only [go_sem, Nat.reduceEqDiff])
          | (apply zg
             · kernel_rfl
             · kernel_rfl)
          | (simp only [bW, if_true, Nat.reduceEqDiff, if_false])
        refine zS (st1 := ⟨44, [(1, .sl nf (fs.map zP) 4 none), (2, .lref 0 0 3 0), (9, .sl nf (fs.map zP) 4 none), (10, I fs.length), (11, I (i : Nat)), (15, .agg [I f.xn, I f.xd, I f.yn, I f.yd]), (16, I 0)], [(0, ⟨[zt p], 3, false⟩)], 1, 0⟩) lk16_5 (by kernel_rfl) ?_
        refine zk ?_
        try dsimp only [lp16_5, zz, zo, Tryd.f16]
        simp only [bW, if_true, Nat.reduceEqDiff, if_false]
        repeat' first
          | (intro hb; first | cases hb | skip)
          | ((first | apply z8 | apply ze)
             · rfl
             · simp (disch := assumption) only [go_sem, Nat.reduceEqDiff, Nat.reduceAdd, bP, zf, Nat.reduceLeDiff, Nat.reduceLT, Nat.reduceMul, List.length_append, decide_eq_true_eq, z9, z6, Int.reduceToNat, Int.reduceLE, Int.reduceLT, Int.reduceBNe, Int.reduceBEq, hx, hnf', hlt', hw3, show (0 : Nat) < 2 from by decide, show (1 : Nat) < 2 from by decide, show IntKind.i64.wrap (0 + 1) = 1 from by decide, show IntKind.i64.wrap (1 + 1) = 2 from by decide, a1, a2, a3, a4]
               rfl
             · simp only [go_sem, Nat.reduceLT, Nat.reduceEqDiff]
               rfl
             · rfl
             first
             | (apply zd
                · simp only [z5, z0, Nat.reduceLT, decide_true, cond_true, ins]
                  rfl
                · simp only [z5, z0, Nat.reduceLT, decide_true, cond_true, ins]
                  rfl)
             | (apply zh
                · simp only [z5, z0, Nat.reduceLT, decide_true, cond_true, ins]
                  rfl))
          | ((first | apply zb | apply zc)
             · rfl
             · simp only [z5, z0, Nat.reduceLT, decide_true, cond_true, ins]
               rfl)
          | (apply za
             · simp only [go_sem, Nat.reduceEqDiff])
          | (apply z7
             · simp only [go_sem, Nat.reduceEqDiff])
          | (apply zg
             · kernel_rfl
             · kernel_rfl)
          | (simp only [bW, if_true, Nat.reduceEqDiff, if_false])
        refine zu (st1 := ⟨44, [(1, .sl nf (fs.map zP) 4 none), (2, .lref 0 0 3 0), (9, .sl nf (fs.map zP) 4 none), (10, I fs.length), (11, I (i : Nat)), (15, .agg [I f.xn, I f.xd, I f.yn, I f.yd]), (16, I 1)], [(0, ⟨[zt p], 3, false⟩)], 1, 0⟩) lk16_5 (by kernel_rfl) ?_
        refine zk ?_
        try dsimp only [lp16_5, zz, zo, Tryd.f16]
        simp only [bW, if_true, Nat.reduceEqDiff, if_false]
        repeat' first
          | (intro hb; first | cases hb | skip)
          | ((first | apply z8 | apply ze)
             · rfl
             · simp (disch := assumption) only [go_sem, Nat.reduceEqDiff, Nat.reduceAdd, bP, zf, Nat.reduceLeDiff, Nat.reduceLT, Nat.reduceMul, List.length_append, decide_eq_true_eq, z9, z6, Int.reduceToNat, Int.reduceLE, Int.reduceLT, Int.reduceBNe, Int.reduceBEq, hx, hnf', hlt', hw3, show (0 : Nat) < 2 from by decide, show (1 : Nat) < 2 from by decide, show IntKind.i64.wrap (0 + 1) = 1 from by decide, show IntKind.i64.wrap (1 + 1) = 2 from by decide]
               rfl
             · simp only [go_sem, Nat.reduceLT, Nat.reduceEqDiff]
               rfl
             · rfl
             first
             | (apply zd
                · simp only [z5, z0, Nat.reduceLT, decide_true, cond_true, ins]
                  rfl
                · simp only [z5, z0, Nat.reduceLT, decide_true, cond_true, ins]
                  rfl)
             | (apply zh
                · simp only [z5, z0, Nat.reduceLT, decide_true, cond_true, ins]
                  rfl))
          | ((first | apply zb | apply zc)
             · rfl
             · simp only [z5, z0, Nat.reduceLT, decide_true, cond_true, ins]
               rfl)
          | (apply za
             · simp only [go_sem, Nat.reduceEqDiff])
          | (apply z7
             · simp only [go_sem, Nat.reduceEqDiff])
          | (apply zg
             · kernel_rfl
             · kernel_rfl)
          | (simp only [bW, if_true, Nat.reduceEqDiff, if_false])
        all_goals first | exact hk _ rfl | (exfalso; simp_all; omega)
      | true =>
        have hs : small4 f = true := by simp [small4, smallR, h1, h2]; simp [smallR] at h2; omega
        simp only [List.all_cons, hs, Bool.true_and] at h h'
        simp only [smallR, Bool.and_eq_true, decide_eq_true_eq] at h2
        have b1 : (f.yn < 1) = False := by simp; omega
        have b2 : (f.yd < 1) = False := by simp; omega
        have b3 : (f.yn > 100000) = False := by simp; omega
        have b4 : (f.yd > 100000) = False := by simp; omega
        refine zk ?_
        try dsimp only [lp16_2, zz, zo, Tryd.f16]
        simp only [bW, if_true, Nat.reduceEqDiff, if_false]
        repeat' first
          | (intro hb; first | cases hb | skip)
          | ((first | apply z8 | apply ze)
             · rfl
             · simp (disch := assumption) only [go_sem, Nat.reduceEqDiff, Nat.reduceAdd, bP, zf, Nat.reduceLeDiff, Nat.reduceLT, Nat.reduceMul, List.length_append, decide_eq_true_eq, z9, z6, Int.reduceToNat, Int.reduceLE, Int.reduceLT, Int.reduceBNe, Int.reduceBEq, hx, hnf', hlt', hw3, show (0 : Nat) < 2 from by decide, show (1 : Nat) < 2 from by decide, show IntKind.i64.wrap (0 + 1) = 1 from by decide, show IntKind.i64.wrap (1 + 1) = 2 from by decide]
               rfl
             · simp only [go_sem, Nat.reduceLT, Nat.reduceEqDiff]
               rfl
             · rfl
             first
             | (apply zd
                · simp only [z5, z0, Nat.reduceLT, decide_true, cond_true, ins]
                  rfl
                · simp only [z5, z0, Nat.reduceLT, decide_true, cond_true, ins]
                  rfl)
             | (apply zh
                · simp only [z5, z0, Nat.reduceLT, decide_true, cond_true, ins]
                  rfl))
          | ((first | apply zb | apply zc)
             · rfl
             · simp only [z5, z0, Nat.reduceLT, decide_true, cond_true, ins]
               rfl)
          | (apply za
             · simp only [go_sem, Nat.reduceEqDiff])
          | (apply z7
             · simp only [go_sem, Nat.reduceEqDiff])
          | (apply zg
             · kernel_rfl
             · kernel_rfl)
          | (simp only [bW, if_true, Nat.reduceEqDiff, if_false])
        refine zS (st1 := ⟨44, [(1, .sl nf (fs.map zP) 4 none), (2, .lref 0 0 3 0), (9, .sl nf (fs.map zP) 4 none), (10, I fs.length), (11, I (i : Nat)), (15, .agg [I f.xn, I f.xd, I f.yn, I f.yd]), (16, I 0)], [(0, ⟨[zt p], 3, false⟩)], 1, 0⟩) lk16_5 (by kernel_rfl) ?_
        refine zk ?_
        try dsimp only [lp16_5, zz, zo, Tryd.f16]
        simp only [bW, if_true, Nat.reduceEqDiff, if_false]
        repeat' first
          | (intro hb; first | cases hb | skip)
          | ((first | apply z8 | apply ze)
             · rfl
             · simp (disch := assumption) only [go_sem, Nat.reduceEqDiff, Nat.reduceAdd, bP, zf, Nat.reduceLeDiff, Nat.reduceLT, Nat.reduceMul, List.length_append, decide_eq_true_eq, z9, z6, Int.reduceToNat, Int.reduceLE, Int.reduceLT, Int.reduceBNe, Int.reduceBEq, hx, hnf', hlt', hw3, show (0 : Nat) < 2 from by decide, show (1 : Nat) < 2 from by decide, show IntKind.i64.wrap (0 + 1) = 1 from by decide, show IntKind.i64.wrap (1 + 1) = 2 from by decide, a1, a2, a3, a4]
               rfl
             · simp only [go_sem, Nat.reduceLT, Nat.reduceEqDiff]
               rfl
             · rfl
             first
             | (apply zd
                · simp only [z5, z0, Nat.reduceLT, decide_true, cond_true, ins]
                  rfl
                · simp only [z5, z0, Nat.reduceLT, decide_true, cond_true, ins]
                  rfl)
             | (apply zh
                · simp only [z5, z0, Nat.reduceLT, decide_true, cond_true, ins]
                  rfl))
          | ((first | apply zb | apply zc)
             · rfl
             · simp only [z5, z0, Nat.reduceLT, decide_true, cond_true, ins]
               rfl)
          | (apply za
             · simp only [go_sem, Nat.reduceEqDiff])
          | (apply z7
             · simp only [go_sem, Nat.reduceEqDiff])
          | (apply zg
             · kernel_rfl
             · kernel_rfl)
          | (simp only [bW, if_true, Nat.reduceEqDiff, if_false])
        refine zu (st1 := ⟨44, [(1, .sl nf (fs.map zP) 4 none), (2, .lref 0 0 3 0), (9, .sl nf (fs.map zP) 4 none), (10, I fs.length), (11, I (i : Nat)), (15, .agg [I f.xn, I f.xd, I f.yn, I f.yd]), (16, I 1)], [(0, ⟨[zt p], 3, false⟩)], 1, 0⟩) lk16_5 (by kernel_rfl) ?_
        refine zk ?_
        try dsimp only [lp16_5, zz, zo, Tryd.f16]
        simp only [bW, if_true, Nat.reduceEqDiff, if_false]
        repeat' first
          | (intro hb; first | cases hb | skip)
          | ((first | apply z8 | apply ze)
             · rfl
             · simp (disch := assumption) only [go_sem, Nat.reduceEqDiff, Nat.reduceAdd, bP, zf, Nat.reduceLeDiff, Nat.reduceLT, Nat.reduceMul, List.length_append, decide_eq_true_eq, z9, z6, Int.reduceToNat, Int.reduceLE, Int.reduceLT, Int.reduceBNe, Int.reduceBEq, hx, hnf', hlt', hw3, show (0 : Nat) < 2 from by decide, show (1 : Nat) < 2 from by decide, show IntKind.i64.wrap (0 + 1) = 1 from by decide, show IntKind.i64.wrap (1 + 1) = 2 from by decide, b1, b2, b3, b4]
               rfl
             · simp only [go_sem, Nat.reduceLT, Nat.reduceEqDiff]
               rfl
             · rfl
             first
             | (apply zd
                · simp only [z5, z0, Nat.reduceLT, decide_true, cond_true, ins]
                  rfl
                · simp only [z5, z0, Nat.reduceLT, decide_true, cond_true, ins]
                  rfl)
             | (apply zh
                · simp only [z5, z0, Nat.reduceLT, decide_true, cond_true, ins]
                  rfl))
          | ((first | apply zb | apply zc)
             · rfl
             · simp only [z5, z0, Nat.reduceLT, decide_true, cond_true, ins]
               rfl)
          | (apply za
             · simp only [go_sem, Nat.reduceEqDiff])
          | (apply z7
             · simp only [go_sem, Nat.reduceEqDiff])
          | (apply zg
             · kernel_rfl
             · kernel_rfl)
          | (simp only [bW, if_true, Nat.reduceEqDiff, if_false])
        refine zu (st1 := ⟨44, [(1, .sl nf (fs.map zP) 4 none), (2, .lref 0 0 3 0), (9, .sl nf (fs.map zP) 4 none), (10, I fs.length), (11, I (i : Nat)), (15, .agg [I f.xn, I f.xd, I f.yn, I f.yd]), (16, I 2)], [(0, ⟨[zt p], 3, false⟩)], 1, 0⟩) lk16_5 (by kernel_rfl) ?_
        refine zk ?_
        try dsimp only [lp16_5, zz, zo, Tryd.f16]
        simp only [bW, if_true, Nat.reduceEqDiff, if_false]
        repeat' first
          | (intro hb; first | cases hb | skip)
          | ((first | apply z8 | apply ze)
             · rfl
             · simp (disch := assumption) only [go_sem, Nat.reduceEqDiff, Nat.reduceAdd, bP, zf, Nat.reduceLeDiff, Nat.reduceLT, Nat.reduceMul, List.length_append, decide_eq_true_eq, z9, z6, Int.reduceToNat, Int.reduceLE, Int.reduceLT, Int.reduceBNe, Int.reduceBEq, hx, hnf', hlt', hw3, show (0 : Nat) < 2 from by decide, show (1 : Nat) < 2 from by decide, show IntKind.i64.wrap (0 + 1) = 1 from by decide, show IntKind.i64.wrap (1 + 1) = 2 from by decide]
               rfl
             · simp only [go_sem, Nat.reduceLT, Nat.reduceEqDiff]
               rfl
             · rfl
             first
             | (apply zd
                · simp only [z5, z0, Nat.reduceLT, decide_true, cond_true, ins]
                  rfl
                · simp only [z5, z0, Nat.reduceLT, decide_true, cond_true, ins]
                  rfl)
             | (apply zh
                · simp only [z5, z0, Nat.reduceLT, decide_true, cond_true, ins]
                  rfl))
          | ((first | apply zb | apply zc)
             · rfl
             · simp only [z5, z0, Nat.reduceLT, decide_true, cond_true, ins]
               rfl)
          | (apply za
             · simp only [go_sem, Nat.reduceEqDiff])
          | (apply z7
             · simp only [go_sem, Nat.reduceEqDiff])
          | (apply zg
             · kernel_rfl
             · kernel_rfl)
          | (simp only [bW, if_true, Nat.reduceEqDiff, if_false])
        exact zu (st1 := ⟨44, [(1, .sl nf (fs.map zP) 4 none), (2, .lref 0 0 3 0), (9, .sl nf (fs.map zP) 4 none), (10, I fs.length), (11, I (i + 1 : Nat))], [(0, ⟨[zt p], 3, false⟩)], 1, 0⟩) lk16_2 (by kernel_rfl) (ih (i + 1) (by rw [← List.drop_drop, hd]; rfl) hlt h h')
theorem t16 (p : Paper) (fs : List F4) (nf : Bool) (sf : Nat) (hnf : nf = true → fs = []) (hsf : nf = false → sf = 4) (hl : fs.length ≤ 9223372036854775807) : (lim cfg).pure 16 [zt p, .sl nf (fs.map zP) sf none] = some (B (plainF p fs)) := by
  have hlf := len_if (f := zP) hnf
  refine zm (zj 16) cfn16 rfl (n := 44) rfl ?_
  generalize hF : finP cfg Tryd.f16 = F
  simp only [bW, if_true, Nat.reduceEqDiff, if_false, zl]
  repeat' first
    | (intro hb; first | cases hb | skip)
    | ((first | apply z8 | apply ze)
       · rfl
       · simp (disch := assumption) only [go_sem, Nat.reduceEqDiff, Nat.reduceAdd, bP, zf, Nat.reduceLeDiff, Nat.reduceLT, Nat.reduceMul, List.length_append, decide_eq_true_eq, z9, z6, Int.reduceToNat, Int.reduceLE, Int.reduceLT, Int.reduceBNe, Int.reduceBEq, hlf]
         rfl
       · simp only [go_sem, Nat.reduceLT, Nat.reduceEqDiff]
         rfl
       · rfl
       first
       | (apply zd
          · simp only [z5, z0, Nat.reduceLT, decide_true, cond_true, ins]
            rfl
          · simp only [z5, z0, Nat.reduceLT, decide_true, cond_true, ins]
            rfl)
       | (apply zh
          · simp only [z5, z0, Nat.reduceLT, decide_true, cond_true, ins]
            rfl))
    | ((first | apply zb | apply zc)
       · rfl
       · simp only [z5, z0, Nat.reduceLT, decide_true, cond_true, ins]
         rfl)
    | (apply za
       · simp only [go_sem, Nat.reduceEqDiff])
    | (apply z7
       · simp only [go_sem, Nat.reduceEqDiff])
    | (apply zg
       · kernel_rfl
       · kernel_rfl)
    | (simp only [bW, if_true, Nat.reduceEqDiff, if_false])
  have hend : ∀ v st, get st.tmps 4 = B v → F .ret st = some (B v) := by
    intro v st hd
    subst hF
    simp only [go_sem, Nat.reduceEqDiff, bP, Nat.reduceAdd, Nat.reduceLeDiff, List.length_map, Tryd.f16, hd]
  refine zS (st1 := ⟨44, [(1, .sl nf (fs.map zP) sf none), (2, .lref 0 0 3 0), (9, .sl nf (fs.map zP) sf none), (10, I fs.length), (11, I (0 : Nat))], [(0, ⟨[zt p], 3, false⟩)], 1, 0⟩) lk16_2 (by kernel_rfl) (L16_2 p fs nf sf _ _ hnf hsf hl (fun st hd => ?_) fs 0 rfl (Nat.zero_le _) (fun ha => ?_) (fun ha => by simp [plainF, ha]))
  · simp only [bW, if_true, Nat.reduceEqDiff, if_false]
    exact hend false st hd
  · by_cases hlen : (fs.length : Int) = p.sheets
    · have hb : ((fs.length : Int) == p.sheets) = true := by simp [hlen]
      rw [show plainF p fs = true by simp [plainF, ha, hlen]]
      simp only [bW, if_true, Nat.reduceEqDiff, if_false]
      repeat' first
        | (intro hb; first | cases hb | skip)
        | ((first | apply z8 | apply ze)
           · rfl
           · simp (disch := assumption) only [go_sem, Nat.reduceEqDiff, Nat.reduceAdd, bP, zf, Nat.reduceLeDiff, Nat.reduceLT, Nat.reduceMul, List.length_append, decide_eq_true_eq, z9, z6, Int.reduceToNat, Int.reduceLE, Int.reduceLT, Int.reduceBNe, Int.reduceBEq, hlf, hb]
             rfl
           · simp only [go_sem, Nat.reduceLT, Nat.reduceEqDiff]
             rfl
           · rfl
           first
           | (apply zd
              · simp only [z5, z0, Nat.reduceLT, decide_true, cond_true, ins]
                rfl
              · simp only [z5, z0, Nat.reduceLT, decide_true, cond_true, ins]
                rfl)
           | (apply zh
              · simp only [z5, z0, Nat.reduceLT, decide_true, cond_true, ins]
                rfl))
        | ((first | apply zb | apply zc)
           · rfl
           · simp only [z5, z0, Nat.reduceLT, decide_true, cond_true, ins]
             rfl)
        | (apply za
           · simp only [go_sem, Nat.reduceEqDiff])
        | (apply z7
           · simp only [go_sem, Nat.reduceEqDiff])
        | (apply zg
           · kernel_rfl
           · kernel_rfl)
        | (simp only [bW, if_true, Nat.reduceEqDiff, if_false])
      exact hend true _ rfl
    · have hb : ((fs.length : Int) == p.sheets) = false := by simp [hlen]
      rw [show plainF p fs = false by simp [plainF, hlen]]
      simp only [bW, if_true, Nat.reduceEqDiff, if_false]
      repeat' first
        | (intro hb; first | cases hb | skip)
        | ((first | apply z8 | apply ze)
           · rfl
           · simp (disch := assumption) only [go_sem, Nat.reduceEqDiff, Nat.reduceAdd, bP, zf, Nat.reduceLeDiff, Nat.reduceLT, Nat.reduceMul, List.length_append, decide_eq_true_eq, z9, z6, Int.reduceToNat, Int.reduceLE, Int.reduceLT, Int.reduceBNe, Int.reduceBEq, hlf, hb]
             rfl
           · simp only [go_sem, Nat.reduceLT, Nat.reduceEqDiff]
             rfl
           · rfl
           first
           | (apply zd
              · simp only [z5, z0, Nat.reduceLT, decide_true, cond_true, ins]
                rfl
              · simp only [z5, z0, Nat.reduceLT, decide_true, cond_true, ins]
                rfl)
           | (apply zh
              · simp only [z5, z0, Nat.reduceLT, decide_true, cond_true, ins]
                rfl))
        | ((first | apply zb | apply zc)
           · rfl
           · simp only [z5, z0, Nat.reduceLT, decide_true, cond_true, ins]
             rfl)
        | (apply za
           · simp only [go_sem, Nat.reduceEqDiff])
        | (apply z7
           · simp only [go_sem, Nat.reduceEqDiff])
        | (apply zg
           · kernel_rfl
           · kernel_rfl)
        | (simp only [bW, if_true, Nat.reduceEqDiff, if_false])
      exact hend false _ rfl

end Go.VS
namespace Go.VS
open Go Go.Proofs
set_option maxHeartbeats 0
set_option linter.unusedSimpArgs false

theorem t45w (p : Paper) (ws : List Reason) (hwf : p.wf) (hl : ws.length ≤ 1000) : (lim cfg).pure 45 [zt p, whyD ws] = some (I (clashC p ws)) := by
  cases ws with
  | nil => exact t45 p [] true 0 hwf (fun _ => rfl) (by simp) (by simp)
  | cons w r => exact t45 p (w :: r) false 3 hwf (by simp) (fun _ => rfl) (by omega)
theorem t47w (p : Paper) (sh ax : Int) (g : Bool) (bd : Ratio) (ws : List Reason) (hwf : p.wf) (hl : ws.length ≤ 1000) : (lim cfg).pure 47 [zt p, I sh, I ax, B g, .agg [I bd.n, I bd.d], whyD ws] = some (I (proofC p sh ax g bd ws)) := by
  cases ws with
  | nil => exact t47 p sh ax g bd [] true 0 hwf (fun _ => rfl) (by simp) (by simp)
  | cons w r => exact t47 p sh ax g bd (w :: r) false 3 hwf (by simp) (fun _ => rfl) (by omega)
theorem real_follow {p : Paper} (hok : zn p = true) {ax : Int} {a b m : Nat} {c : Chn} (h1 : 1 ≤ m) (h5 : m ≤ 5) (h : RealC (zA p ax) a m b c) : followO p ax c.why = some ((a : Int), (b : Int), c.q) ∧ c.why.length = m := by
  obtain ⟨w, w1, w2, w3, w4, w5⟩ := h
  obtain ⟨q, f1, f2, f3⟩ := follow_walk hok (by omega) (by omega) w2
  rw [red_eq f2 w5 (f3.trans w3.symm)] at f1
  rw [w4]
  exact ⟨f1, by simp [w1]⟩
theorem clash_acc {p : Paper} (hok : zn p = true) {ax : Int} {c : Chn} (h : clashA p ax = some c) : ans92 (followO p ax c.why) = true ∧ c.why.length ≤ 5 := by
  obtain ⟨o1, o2, -⟩ := zC hok
  obtain ⟨k, k1, k2, k3, k4⟩ := clash_some h
  obtain ⟨m, m1, m2, hr⟩ := (chains_spec (fun e he => (edge_nodes hok he).1) (show k < 5 by omega) 5).2.1 k c k3
  obtain ⟨f1, f2⟩ := real_follow hok m1 m2 hr
  rw [f1]
  simp only [ans92, beq_self_eq_true, Bool.true_and]
  exact ⟨k4, by omega⟩
theorem ratio_good {r : Ratio} (h : goodQ r) : ratioOK r = true := by
  obtain ⟨⟨a, b, c⟩, d, e, f, g⟩ := h
  simp only [ratioOK, Bool.and_eq_true, decide_eq_true_eq]
  omega
theorem leR_self (q : Ratio) : leR q q = true := by unfold leR; simp
theorem proof_acc {p : Paper} {s ax : Int} (h : zO p ax [s] = 0) : (proofC p s ax true (hiF p s ax) (downF p s ax).why = 0 ∧ (downF p s ax).why.length ≤ 5) ∧ (proofC p s ax false (loF p s ax) (upF p s ax).why = 0 ∧ (upF p s ax).why.length ≤ 5) := by
  obtain ⟨hok, hp, hs, hax⟩ := known_zero.1 h
  simp only [List.all_cons, List.all_nil, Bool.and_true] at hs
  obtain ⟨o1, o2, -⟩ := zC hok
  have hc := poss_none hp hax
  obtain ⟨i, hi, l1, l2⟩ := sheet_nat hs
  obtain ⟨-, d1⟩ := downO_some ax hok hs
  obtain ⟨-, d2⟩ := upO_some ax hok hs
  rw [l2] at d1 d2
  obtain ⟨m, m1, m2, hr⟩ := (chains_spec (fun e he => (edge_nodes hok he).1) (show 1 + i < 5 by omega) 4).2.1 0 _ d1
  obtain ⟨m', m1', m2', hr'⟩ := (chains_spec (fun e he => (edge_nodes hok he).1) (show 0 < 5 by omega) 4).2.1 (1 + i) _ d2
  obtain ⟨f1, f2⟩ := real_follow hok m1 (by omega) hr
  obtain ⟨f1', f2'⟩ := real_follow hok m1' (by omega) hr'
  have g1 := ratio_good (hi_good hok hc (i := i) (by omega))
  have g2 := ratio_good (lo_good hok hc (i := i) (by omega))
  rw [← hi] at g1 g2
  have hj : ((1 + i : Nat) : Int) = 1 + s := by omega
  refine ⟨⟨?_, by omega⟩, ⟨?_, by omega⟩⟩
  · unfold proofC
    rw [hok, hs, hax, g1, f1]
    simp only [if_true, Bool.and_self, ans96, proves, hj, beq_self_eq_true, Bool.true_and]
    rw [show leR (downF p s ax).q (hiF p s ax) = true from leR_self _]
    rfl
  · unfold proofC
    rw [hok, hs, hax, g2, f1']
    simp only [if_true, Bool.and_self, ans96, proves, hj, beq_self_eq_true, Bool.true_and, Bool.false_eq_true, if_false]
    rw [show leR (upF p s ax).q ⟨(loF p s ax).d, (loF p s ax).n⟩ = true from leR_self _]
    rfl

theorem t9 (p : Paper) (s ax : Int) (g : Bool) (bd : Ratio) (l : List Reason) (nl : Bool) (sz : Nat) (hwf : p.wf) (hnl : nl = true → l = []) (hsz : nl = false → sz = 3) (hll : l.length ≤ 9223372036854775807) : (lim cfg).pure 9 [zt p, I s, I ax, B g, encR bd, .sl nl (l.map encW) sz none] = some (B true) := by
  have h17 := t17 p hwf
  have hlw := len_if (f := encW) hnl
  have e44 := t44 p l nl sz hwf hnl hsz hll
  have e45 := t45 p l nl sz hwf hnl hsz hll
  have e46 := t46 p s ax g bd l nl sz hwf hnl hsz hll
  have e47 := t47 p s ax g bd l nl sz hwf hnl hsz hll
  have h31 := t31 p hwf
  have h48 := t48 p hwf
  have h36 := t36 p s ax hwf
  have h49 := t49 p s ax g hwf
  unfold encR
  cases hfew : (decide (p.marks.length ≤ 26) && decide (p.joins.length ≤ 26)) with
  | false =>
    rw [hfew] at h17
    refine zm (zj 9) cfn9 rfl (n := 135) rfl ?_
    simp only [bW, if_true, Nat.reduceEqDiff, if_false, zl]
    repeat' first
      | (intro hb; first | cases hb | skip)
      | ((first | apply z8 | apply ze)
         · rfl
         · simp (disch := assumption) only [go_sem, Nat.reduceEqDiff, Nat.reduceAdd, bP, zf, Nat.reduceLeDiff, Nat.reduceLT, Nat.reduceMul, List.length_append, decide_eq_true_eq, z9, z6, Int.reduceToNat, Int.reduceLE, Int.reduceLT, Int.reduceBNe, Int.reduceBEq, t14, h17]
           rfl
         · simp only [go_sem, Nat.reduceLT, Nat.reduceEqDiff]
           rfl
         · rfl
         first
         | (apply zd
            · simp only [z5, z0, Nat.reduceLT, decide_true, cond_true, ins]
              rfl
            · simp only [z5, z0, Nat.reduceLT, decide_true, cond_true, ins]
              rfl)
         | (apply zh
            · simp only [z5, z0, Nat.reduceLT, decide_true, cond_true, ins]
              rfl))
      | ((first | apply zb | apply zc)
         · rfl
         · simp only [z5, z0, Nat.reduceLT, decide_true, cond_true, ins]
           rfl)
      | (apply za
         · simp only [go_sem, Nat.reduceEqDiff])
      | (apply z7
         · simp only [go_sem, Nat.reduceEqDiff])
      | (apply zg
         · kernel_rfl
         · kernel_rfl)
      | (simp only [bW, if_true, Nat.reduceEqDiff, if_false])
    all_goals try simp only [go_sem, Nat.reduceEqDiff, bP, Nat.reduceAdd, Nat.reduceLeDiff, List.length_map, Tryd.f9]
    all_goals first | done | rfl | (simp_all []; done) | trace_state
  | true =>
  rw [hfew] at h17
  cases h40 : decide ((l.length : Int) > 40) with
  | true =>
    refine zm (zj 9) cfn9 rfl (n := 135) rfl ?_
    simp only [bW, if_true, Nat.reduceEqDiff, if_false, zl]
    repeat' first
      | (intro hb; first | cases hb | skip)
      | ((first | apply z8 | apply ze)
         · rfl
         · simp (disch := assumption) only [go_sem, Nat.reduceEqDiff, Nat.reduceAdd, bP, zf, Nat.reduceLeDiff, Nat.reduceLT, Nat.reduceMul, List.length_append, decide_eq_true_eq, z9, z6, Int.reduceToNat, Int.reduceLE, Int.reduceLT, Int.reduceBNe, Int.reduceBEq, t14, h17, hlw, h40]
           rfl
         · simp only [go_sem, Nat.reduceLT, Nat.reduceEqDiff]
           rfl
         · rfl
         first
         | (apply zd
            · simp only [z5, z0, Nat.reduceLT, decide_true, cond_true, ins]
              rfl
            · simp only [z5, z0, Nat.reduceLT, decide_true, cond_true, ins]
              rfl)
         | (apply zh
            · simp only [z5, z0, Nat.reduceLT, decide_true, cond_true, ins]
              rfl))
      | ((first | apply zb | apply zc)
         · rfl
         · simp only [z5, z0, Nat.reduceLT, decide_true, cond_true, ins]
           rfl)
      | (apply za
         · simp only [go_sem, Nat.reduceEqDiff])
      | (apply z7
         · simp only [go_sem, Nat.reduceEqDiff])
      | (apply zg
         · kernel_rfl
         · kernel_rfl)
      | (simp only [bW, if_true, Nat.reduceEqDiff, if_false])
    all_goals try simp only [go_sem, Nat.reduceEqDiff, bP, Nat.reduceAdd, Nat.reduceLeDiff, List.length_map, Tryd.f9]
    all_goals first | done | rfl | (simp_all []; done) | trace_state
  | false =>
  cases hok : zn p with
  | false =>
    rw [hok] at h31 h48
    simp only [Bool.false_eq_true, if_false] at h31 h48
    have hk : zO p ax [s] ≠ 0 := fun h => by have := (known_zero.1 h).1; rw [hok] at this; cases this
    rw [if_neg hk] at h36 h49
    have hkb : (zO p ax [s] != 0) = true := by simp [hk]
    refine zm (zj 9) cfn9 rfl (n := 135) rfl ?_
    simp only [bW, if_true, Nat.reduceEqDiff, if_false, zl]
    repeat' first
      | (intro hb; first | cases hb | skip)
      | ((first | apply z8 | apply ze)
         · rfl
         · simp (disch := assumption) only [go_sem, Nat.reduceEqDiff, Nat.reduceAdd, bP, zf, Nat.reduceLeDiff, Nat.reduceLT, Nat.reduceMul, List.length_append, decide_eq_true_eq, z9, z6, Int.reduceToNat, Int.reduceLE, Int.reduceLT, Int.reduceBNe, Int.reduceBEq, t14, h17, hlw, h40, e44, e45, e46, e47, beq_self_eq_true, bne_self_eq_false, whyD_one, zG, pd_why, Int.lt_irrefl, h31, h48, h36, h49, hkb]
           rfl
         · simp only [go_sem, Nat.reduceLT, Nat.reduceEqDiff]
           rfl
         · rfl
         first
         | (apply zd
            · simp only [z5, z0, Nat.reduceLT, decide_true, cond_true, ins]
              rfl
            · simp only [z5, z0, Nat.reduceLT, decide_true, cond_true, ins]
              rfl)
         | (apply zh
            · simp only [z5, z0, Nat.reduceLT, decide_true, cond_true, ins]
              rfl))
      | ((first | apply zb | apply zc)
         · rfl
         · simp only [z5, z0, Nat.reduceLT, decide_true, cond_true, ins]
           rfl)
      | (apply za
         · simp only [go_sem, Nat.reduceEqDiff])
      | (apply z7
         · simp only [go_sem, Nat.reduceEqDiff])
      | (apply zg
         · kernel_rfl
         · kernel_rfl)
      | (simp only [bW, if_true, Nat.reduceEqDiff, if_false])
    all_goals try simp only [go_sem, Nat.reduceEqDiff, bP, Nat.reduceAdd, Nat.reduceLeDiff, List.length_map, Tryd.f9]
    all_goals first | done | rfl | (simp_all []; done) | trace_state
  | true =>
  rw [hok] at h31 h48
  simp only [if_true] at h31 h48
  cases hcl : clashR p with
  | some c =>
    rw [hcl] at h48
    simp only [clashD] at h48
    have hex : ∃ ax', (ax' = 0 ∨ ax' = 1) ∧ clashA p ax' = some c := by
      unfold clashR at hcl
      split at hcl
      · rename_i c' h; cases hcl; exact ⟨0, .inl rfl, h⟩
      · exact ⟨1, .inr rfl, hcl⟩
    obtain ⟨ax', hax', hca⟩ := hex
    obtain ⟨a1, a2⟩ := clash_acc hok hca
    have hposs : possibleF p = false := by
      unfold possibleF
      rcases hax' with rfl | rfl <;> rw [hca] <;> simp
    have hcc : clashC p c.why = 0 := by
      unfold clashC clashOK
      rw [hok]
      rcases hax' with rfl | rfl <;> rw [a1] <;> simp
    have e45w := t45w p c.why hwf (by omega)
    rw [hcc] at e45w
    rw [hposs] at h31
    have hk : zO p ax [s] ≠ 0 := fun h => by have := (known_zero.1 h).2.1; rw [hposs] at this; cases this
    rw [if_neg hk] at h36 h49
    have hkb : (zO p ax [s] != 0) = true := by simp [hk]
    refine zm (zj 9) cfn9 rfl (n := 135) rfl ?_
    simp only [bW, if_true, Nat.reduceEqDiff, if_false, zl]
    repeat' first
      | (intro hb; first | cases hb | skip)
      | ((first | apply z8 | apply ze)
         · rfl
         · simp (disch := assumption) only [go_sem, Nat.reduceEqDiff, Nat.reduceAdd, bP, zf, Nat.reduceLeDiff, Nat.reduceLT, Nat.reduceMul, List.length_append, decide_eq_true_eq, z9, z6, Int.reduceToNat, Int.reduceLE, Int.reduceLT, Int.reduceBNe, Int.reduceBEq, t14, h17, hlw, h40, e44, e45, e46, e47, beq_self_eq_true, bne_self_eq_false, whyD_one, zG, pd_why, Int.lt_irrefl, h31, h48, h36, h49, hkb, e45w]
           rfl
         · simp only [go_sem, Nat.reduceLT, Nat.reduceEqDiff]
           rfl
         · rfl
         first
         | (apply zd
            · simp only [z5, z0, Nat.reduceLT, decide_true, cond_true, ins]
              rfl
            · simp only [z5, z0, Nat.reduceLT, decide_true, cond_true, ins]
              rfl)
         | (apply zh
            · simp only [z5, z0, Nat.reduceLT, decide_true, cond_true, ins]
              rfl))
      | ((first | apply zb | apply zc)
         · rfl
         · simp only [z5, z0, Nat.reduceLT, decide_true, cond_true, ins]
           rfl)
      | (apply za
         · simp only [go_sem, Nat.reduceEqDiff])
      | (apply z7
         · simp only [go_sem, Nat.reduceEqDiff])
      | (apply zg
         · kernel_rfl
         · kernel_rfl)
      | (simp only [bW, if_true, Nat.reduceEqDiff, if_false])
    all_goals try simp only [go_sem, Nat.reduceEqDiff, bP, Nat.reduceAdd, Nat.reduceLeDiff, List.length_map, Tryd.f9]
    all_goals first | done | rfl | (simp_all []; done) | trace_state
  | none =>
    rw [hcl] at h48
    simp only [clashD] at h48
    have hposs : possibleF p = true := by
      unfold clashR at hcl
      unfold possibleF
      split at hcl
      · cases hcl
      · rename_i h; rw [h, hcl]; rfl
    rw [hposs] at h31
    by_cases hk : zO p ax [s] = 0
    · rw [if_pos hk] at h36 h49
      obtain ⟨⟨q1, q2⟩, ⟨q3, q4⟩⟩ := proof_acc hk
      cases g with
      | true =>
        simp only [if_true] at h49
        have e47w := t47w p s ax true (hiF p s ax) _ hwf (show (downF p s ax).why.length ≤ 1000 by omega)
        rw [q1] at e47w
        refine zm (zj 9) cfn9 rfl (n := 135) rfl ?_
        simp only [bW, if_true, Nat.reduceEqDiff, if_false, zl]
        repeat' first
          | (intro hb; first | cases hb | skip)
          | ((first | apply z8 | apply ze)
             · rfl
             · simp (disch := assumption) only [go_sem, Nat.reduceEqDiff, Nat.reduceAdd, bP, zf, Nat.reduceLeDiff, Nat.reduceLT, Nat.reduceMul, List.length_append, decide_eq_true_eq, z9, z6, Int.reduceToNat, Int.reduceLE, Int.reduceLT, Int.reduceBNe, Int.reduceBEq, t14, h17, hlw, h40, e44, e45, e46, e47, beq_self_eq_true, bne_self_eq_false, whyD_one, zG, pd_why, Int.lt_irrefl, h31, h48, h36, h49, e47w]
               rfl
             · simp only [go_sem, Nat.reduceLT, Nat.reduceEqDiff]
               rfl
             · rfl
             first
             | (apply zd
                · simp only [z5, z0, Nat.reduceLT, decide_true, cond_true, ins]
                  rfl
                · simp only [z5, z0, Nat.reduceLT, decide_true, cond_true, ins]
                  rfl)
             | (apply zh
                · simp only [z5, z0, Nat.reduceLT, decide_true, cond_true, ins]
                  rfl))
          | ((first | apply zb | apply zc)
             · rfl
             · simp only [z5, z0, Nat.reduceLT, decide_true, cond_true, ins]
               rfl)
          | (apply za
             · simp only [go_sem, Nat.reduceEqDiff])
          | (apply z7
             · simp only [go_sem, Nat.reduceEqDiff])
          | (apply zg
             · kernel_rfl
             · kernel_rfl)
          | (simp only [bW, if_true, Nat.reduceEqDiff, if_false])
        all_goals try simp only [go_sem, Nat.reduceEqDiff, bP, Nat.reduceAdd, Nat.reduceLeDiff, List.length_map, Tryd.f9]
        all_goals first | done | rfl | (simp_all []; done) | trace_state
      | false =>
        simp only [Bool.false_eq_true, if_false] at h49
        have e47w := t47w p s ax false (loF p s ax) _ hwf (show (upF p s ax).why.length ≤ 1000 by omega)
        rw [q3] at e47w
        refine zm (zj 9) cfn9 rfl (n := 135) rfl ?_
        simp only [bW, if_true, Nat.reduceEqDiff, if_false, zl]
        repeat' first
          | (intro hb; first | cases hb | skip)
          | ((first | apply z8 | apply ze)
             · rfl
             · simp (disch := assumption) only [go_sem, Nat.reduceEqDiff, Nat.reduceAdd, bP, zf, Nat.reduceLeDiff, Nat.reduceLT, Nat.reduceMul, List.length_append, decide_eq_true_eq, z9, z6, Int.reduceToNat, Int.reduceLE, Int.reduceLT, Int.reduceBNe, Int.reduceBEq, t14, h17, hlw, h40, e44, e45, e46, e47, beq_self_eq_true, bne_self_eq_false, whyD_one, zG, pd_why, Int.lt_irrefl, h31, h48, h36, h49, e47w]
               rfl
             · simp only [go_sem, Nat.reduceLT, Nat.reduceEqDiff]
               rfl
             · rfl
             first
             | (apply zd
                · simp only [z5, z0, Nat.reduceLT, decide_true, cond_true, ins]
                  rfl
                · simp only [z5, z0, Nat.reduceLT, decide_true, cond_true, ins]
                  rfl)
             | (apply zh
                · simp only [z5, z0, Nat.reduceLT, decide_true, cond_true, ins]
                  rfl))
          | ((first | apply zb | apply zc)
             · rfl
             · simp only [z5, z0, Nat.reduceLT, decide_true, cond_true, ins]
               rfl)
          | (apply za
             · simp only [go_sem, Nat.reduceEqDiff])
          | (apply z7
             · simp only [go_sem, Nat.reduceEqDiff])
          | (apply zg
             · kernel_rfl
             · kernel_rfl)
          | (simp only [bW, if_true, Nat.reduceEqDiff, if_false])
        all_goals try simp only [go_sem, Nat.reduceEqDiff, bP, Nat.reduceAdd, Nat.reduceLeDiff, List.length_map, Tryd.f9]
        all_goals first | done | rfl | (simp_all []; done) | trace_state
    · rw [if_neg hk] at h36 h49
      have hkb : (zO p ax [s] != 0) = true := by simp [hk]
      refine zm (zj 9) cfn9 rfl (n := 135) rfl ?_
      simp only [bW, if_true, Nat.reduceEqDiff, if_false, zl]
      repeat' first
        | (intro hb; first | cases hb | skip)
        | ((first | apply z8 | apply ze)
           · rfl
           · simp (disch := assumption) only [go_sem, Nat.reduceEqDiff, Nat.reduceAdd, bP, zf, Nat.reduceLeDiff, Nat.reduceLT, Nat.reduceMul, List.length_append, decide_eq_true_eq, z9, z6, Int.reduceToNat, Int.reduceLE, Int.reduceLT, Int.reduceBNe, Int.reduceBEq, t14, h17, hlw, h40, e44, e45, e46, e47, beq_self_eq_true, bne_self_eq_false, whyD_one, zG, pd_why, Int.lt_irrefl, h31, h48, h36, h49, hkb]
             rfl
           · simp only [go_sem, Nat.reduceLT, Nat.reduceEqDiff]
             rfl
           · rfl
           first
           | (apply zd
              · simp only [z5, z0, Nat.reduceLT, decide_true, cond_true, ins]
                rfl
              · simp only [z5, z0, Nat.reduceLT, decide_true, cond_true, ins]
                rfl)
           | (apply zh
              · simp only [z5, z0, Nat.reduceLT, decide_true, cond_true, ins]
                rfl))
        | ((first | apply zb | apply zc)
           · rfl
           · simp only [z5, z0, Nat.reduceLT, decide_true, cond_true, ins]
             rfl)
        | (apply za
           · simp only [go_sem, Nat.reduceEqDiff])
        | (apply z7
           · simp only [go_sem, Nat.reduceEqDiff])
        | (apply zg
           · kernel_rfl
           · kernel_rfl)
        | (simp only [bW, if_true, Nat.reduceEqDiff, if_false])
      all_goals try simp only [go_sem, Nat.reduceEqDiff, bP, Nat.reduceAdd, Nat.reduceLeDiff, List.length_map, Tryd.f9]
      all_goals first | done | rfl | (simp_all []; done) | trace_state

end Go.VS
/-
  VS, part P: what arguments that read as data stand for; what a law's call leaves. (A text of this claim's own; nothing of it is trusted.)
-/
namespace Go.VS
open Go Go.RowKit Go.ChangeShapes Go.WideShapes

def memOf (w : World) : Mem := fun b o => w.cell? ⟨b, o, none⟩
theorem memOf_ok (w : World) : MOK (memOf w) w := fun _ _ _ h => h

/-- Which cells a value of a type may have. -/
def Sh (C : Cfg) : Nat → TypeId → List D → Prop
  | 0, _, _ => False
  | f + 1, t, ds => match C.ty t with
    | some ty => match ty.kind with
      | .int k => ∃ n, ds = [.val (.int k n)] ∧ k.min ≤ n ∧ n ≤ k.max
      | .bool => ∃ b, ds = [B b]
      | .str => ∃ s : ByteArray, ds = [.val (.string s)] ∧ s.size ≤ maxLen
      | .struct fs => ds.length = ty.size ∧ ∀ p ∈ fs, ∃ tf, C.ty p.1 = some tf ∧ Sh C f p.1 ((ds.drop p.2).take tf.size)
      | .arr n e => ds.length = ty.size ∧ ∃ te, C.ty e = some te ∧ ∀ i, i < n → Sh C f e ((ds.drop (i * te.size)).take te.size)
      | .slice e => ds = [.sl true [] 0 none] ∨ ∃ els te, C.ty e = some te ∧ ds = [.sl false els te.size none] ∧ els.length ≤ maxLen ∧
          ∀ d ∈ els, Sh C f e d.cells ∧ (te.isAgg = true → d = .agg d.cells) ∧ (te.isAgg = false → d.cells = [d])
      | _ => False
    | none => False
/-- Types without slices. -/
def flatT (C : Cfg) : Nat → TypeId → Bool
  | 0, _ => false
  | f + 1, t => match C.ty t with
    | some ty => match ty.kind with
      | .int _ => true
      | .bool => true
      | .str => true
      | .struct fs => fs.all fun p => flatT C f p.1
      | .arr _ e => flatT C f e
      | _ => false
    | none => false
/-- Types with slices whose elements have none. -/
def topT (C : Cfg) : Nat → TypeId → Bool
  | 0, _ => false
  | f + 1, t => match C.ty t with
    | some ty => match ty.kind with
      | .int _ => true
      | .bool => true
      | .str => true
      | .struct fs => fs.all fun p => topT C f p.1
      | .arr _ e => topT C f e
      | .slice e => flatT C f e
      | _ => false
    | none => false
theorem flat_top {C : Cfg} : ∀ {f : Nat} {t : TypeId}, flatT C f t = true → topT C f t = true
  | 0, _, h => by cases h
  | f + 1, t, h => by
    unfold flatT at h; unfold topT
    split at h
    · rename_i ty ht
      try rw [ht]
      try simp only []
      cases hk : ty.kind <;> rw [hk] at h <;> simp only [] at h ⊢ <;> (try (cases h; done))
      · exact flat_top h
      · simp only [List.all_eq_true] at h ⊢
        exact fun p hp => flat_top (h p hp)
    · cases h

def plainCells (cs : List Value) : Prop := ∀ v ∈ cs, ∀ a l c, v = .slice (some a) l c → a.spot = none

theorem cellsOf_of {P : Program} {t : TypeId} {ty : Ty} (h : tyOf P t = some ty) : P.cellsOf t = ty.size := by
  obtain ⟨i, d, hi, hd, hz, hk, hs, hb⟩ := tyOf_spec h
  simp [Program.cellsOf, hi, hs]

theorem list_parts {α : Type} (l : List α) (n k : Nat) (h : l.length = n * k) : l = (List.range n).flatMap fun i => (l.drop (i * k)).take k := by
  induction n generalizing l with
  | zero => simp at h ⊢; exact h
  | succ n ih =>
    rw [List.range_succ_eq_map, List.flatMap_cons]
    simp only [Nat.zero_mul, List.drop_zero, List.flatMap_map]
    have hl : (l.drop k).length = n * k := by rw [List.length_drop, h, Nat.add_mul]; omega
    have e := ih (l.drop k) hl
    have : (List.range n).flatMap (fun i => ((l.drop k).drop (i * k)).take k) = (List.range n).flatMap (fun i => (l.drop ((i + 1) * k)).take k) := by
      congr 1; funext i; rw [List.drop_drop]; congr 2; rw [Nat.add_mul]; omega
    rw [this] at e
    calc l = l.take k ++ l.drop k := (List.take_append_drop k l).symm
      _ = _ := by rw [← e]

/-- Parts that stand for parts, put together. -/
theorem zD.join {M : Mem} {Q : Nat → List D → Prop} : ∀ (n : Nat) (F : Nat → List Value), (∀ i, i < n → ∃ ds, zD M noLoc ds (F i) ∧ Q i ds) →
    ∃ G : Nat → List D, zD M noLoc ((List.range n).flatMap G) ((List.range n).flatMap F) ∧ ∀ i, i < n → zD M noLoc (G i) (F i) ∧ Q i (G i) := by
  intro n F h
  obtain ⟨G, hG⟩ := Go.Deep.choose_lt (α := List D) (p := fun i ds => zD M noLoc ds (F i) ∧ Q i ds) h
  refine ⟨G, ?_, hG⟩
  have : ∀ l : List Nat, (∀ i ∈ l, i < n) → zD M noLoc (l.flatMap G) (l.flatMap F) := by
    intro l
    induction l with
    | nil => intro _; simp [zD]
    | cons a l ih =>
      intro hl
      simp only [List.flatMap_cons]
      exact zD.append (hG a (hl a (by simp))).1 (ih fun i hi => hl i (List.mem_cons_of_mem _ hi))
  exact this _ fun i hi => by simpa using hi
theorem flatMap_part {α : Type} (n : Nat) (G : Nat → List α) (k : Nat) (h : ∀ i, i < n → (G i).length = k) (i : Nat) (hi : i < n) : (((List.range n).flatMap G).drop (i * k)).take k = G i := by
  induction n generalizing i G with
  | zero => omega
  | succ n ih =>
    rw [List.range_succ_eq_map, List.flatMap_cons, List.flatMap_map]
    have h0 := h 0 (by omega)
    cases i with
    | zero => simp [← h0]
    | succ i =>
      rw [List.drop_append, List.drop_eq_nil_of_le (by rw [h0, Nat.add_mul]; omega), List.nil_append, h0]
      have : (i + 1) * k - k = i * k := by rw [Nat.add_mul]; omega
      rw [this]
      exact ih (fun i => G (i + 1)) (fun i hi => h (i + 1) (by omega)) i (by omega)

/-- The fields of a struct cover its cells, one behind the other. -/
def rowed : Nat → List (Nat × Nat) → Option Nat
  | o, [] => some o
  | o, (off, size) :: r => if off = o then rowed (o + size) r else none
def rowedT (C : Cfg) : Nat → TypeId → Bool
  | 0, _ => false
  | f + 1, t => match C.ty t with
    | some ty => match ty.kind with
      | .int _ => ty.size == 1
      | .bool => ty.size == 1
      | .str => ty.size == 1
      | .slice e => ty.size == 1 && (match C.ty e with | some te => rowedT C f e && decide (0 < te.size) | none => false)
      | .struct fs => (fs.all fun p => rowedT C f p.1) && (match placesOf C fs with | some pl => rowed 0 pl == some ty.size | none => false)
      | .arr n e => rowedT C f e && (match C.ty e with | some te => ty.size == n * te.size | none => false)
      | _ => false
    | none => false

theorem rowed_parts {M : Mem} {cs : List Value} : ∀ (l : List (Nat × Nat)) (o n : Nat), rowed o l = some n → n ≤ cs.length → ∀ {Q : Nat → List D → Prop},
    (∀ i p, l[i]? = some p → ∃ ds, zD M noLoc ds ((cs.drop p.1).take p.2) ∧ Q i ds) →
    ∃ ds, zD M noLoc ds ((cs.drop o).take (n - o)) ∧ ds.length = n - o ∧ o ≤ n ∧ ∀ i p, l[i]? = some p → o ≤ p.1 ∧ Q i ((ds.drop (p.1 - o)).take p.2)
  | [], o, n, h, hn, Q, _ => by
    simp only [rowed, Option.some.injEq] at h; subst h
    exact ⟨[], by simp [zD], by simp, Nat.le_refl _, by simp⟩
  | (off, size) :: r, o, n, h, hn, Q, hq => by
    simp only [rowed] at h
    split at h
    · rename_i ho; subst ho
      obtain ⟨d0, h1, h2⟩ := hq 0 (off, size) rfl
      obtain ⟨ds, k1, k2, k3, k4⟩ := rowed_parts r (off + size) n h hn (Q := fun i => Q (i + 1)) (fun i p hp => hq (i + 1) p (by simpa using hp))
      have hl : d0.length = size := by rw [← h1.length, List.length_take, List.length_drop]; omega
      refine ⟨d0 ++ ds, ?_, by simp [hl, k2]; omega, by omega, fun i p hp => ?_⟩
      · have e : (cs.drop off).take (n - off) = (cs.drop off).take size ++ (cs.drop (off + size)).take (n - (off + size)) := by
          rw [show n - off = size + (n - (off + size)) by omega, List.take_add, List.drop_drop]
        rw [e]; exact h1.append k1
      · cases i with
        | zero => simp at hp; subst hp; simp [← hl]; simpa [hl] using h2
        | succ i =>
          obtain ⟨q1, q2⟩ := k4 i p (by simpa using hp)
          refine ⟨by omega, ?_⟩
          rw [List.drop_append, List.drop_eq_nil_of_le (by omega), List.nil_append, hl, show p.1 - off - size = p.1 - (off + size) by omega]
          exact q2
    · cases h

section
variable {H : Type} {enc : TypeId × Value → H} {C : Cfg} {w : World} {base : Nat} {sp : Nat → Bool} {held : Bool}

theorem placesOf_get : ∀ {fs : List (TypeId × Nat)} {pl : List (Nat × Nat)}, placesOf C fs = some pl → fs.length = pl.length ∧ ∀ (i : Nat) (p : Nat × Nat), pl[i]? = some p → ∃ t ty, fs[i]? = some (t, p.1) ∧ C.ty t = some ty ∧ ty.size = p.2
  | [], pl, h => by simp [placesOf] at h; subst h; simp
  | (t, off) :: r, pl, h => by
    simp only [placesOf] at h
    split at h
    · rename_i ty l h1 h2
      cases h
      obtain ⟨k1, k2⟩ := placesOf_get h2
      refine ⟨by simp [k1], fun i p hp => ?_⟩
      cases i with
      | zero => simp at hp; subst hp; exact ⟨t, ty, by simp, h1, rfl⟩
      | succ i => obtain ⟨t', ty', a, b, c⟩ := k2 i p (by simpa using hp); exact ⟨t', ty', by simpa using a, b, c⟩
    · cases h

theorem fieldsOf_get {fs : Array Field} {i : Nat} {p : TypeId × Nat} (h : (fs.toList.map fun f => (f.type, f.offset))[i]? = some p) : ∃ f : Field, fs[i]? = some f ∧ f.type = p.1 ∧ f.offset = p.2 := by
  rw [List.getElem?_map] at h
  cases hf : fs.toList[i]? with
  | none => rw [hf] at h; cases h
  | some f => rw [hf] at h; cases h; exact ⟨f, by simpa using hf, rfl, rfl⟩

/-- What reads as data has a deep value. -/
theorem trod_rep (hC : ∀ t ty, C.ty t = some ty → tyOf C.P t = some ty) : ∀ (f n : Nat) (t : TypeId) (cs : List Value) (x : DataW H × List MemPlace),
    DataW.trod enc C.P w base sp held n t cs = some x → topT C f t = true → rowedT C f t = true → (plainCells cs ∨ flatT C f t = true) →
    ∃ ds, zD (memOf w) noLoc ds cs ∧ Sh C f t ds
  | 0, _, _, _, _, _, h, _, _ => by cases h
  | f + 1, n, t, cs, x, h, ht, hw, hp => by
    unfold topT at ht
    split at ht
    case h_2 => cases ht
    rename_i ty hty
    have hto := hC _ _ hty
    obtain ⟨i, d, hi, hd, hz, hk, hs, hb⟩ := tyOf_spec hto
    unfold rowedT at hw
    rw [hty] at hw; simp only [] at hw
    unfold Sh
    rw [hty]; simp only []
    have hp' : plainCells cs ∨ (match ty.kind with | .int _ => true | .bool => true | .str => true | .struct fs => fs.all (fun p => flatT C f p.1) | .arr _ e => flatT C f e | _ => false) = true := by
      rcases hp with hp | hp
      · exact .inl hp
      · unfold flatT at hp; rw [hty] at hp; exact .inr hp
    clear hp
    cases d <;> simp only [tkOf] at hk <;> rw [hk] at ht hw hp' ⊢ <;> simp only [] at ht hw hp' ⊢ <;> (try (cases ht; done))
    case bool =>
      obtain ⟨b, rfl, _⟩ := DataW.trod_bool hd h
      exact ⟨[B b], by simp [zD, Rep], b, rfl⟩
    case int k =>
      obtain ⟨m, rfl, _, hwf⟩ := DataW.trod_int hd h
      simp only [Lit.wf, Bool.and_eq_true, decide_eq_true_eq] at hwf
      exact ⟨[.val (.int k m)], by simp [zD, Rep], m, rfl, hwf⟩
    case string =>
      obtain ⟨s, rfl, _, hsz⟩ := DataW.trod_string hd h
      exact ⟨[.val (.string s)], by simp [zD, Rep], s, rfl, hsz⟩
    case struct fs =>
      obtain ⟨xs, m, rfl, _, hl, hxl, hf⟩ := DataW.trod_struct hd h
      rw [cellsOf_of hto] at hl
      simp only [Bool.and_eq_true] at hw
      obtain ⟨hw1, hw2⟩ := hw
      split at hw2
      case h_2 => cases hw2
      rename_i pl hpl
      have hrow : rowed 0 pl = some ty.size := by simpa using hw2
      obtain ⟨hlen, hget⟩ := placesOf_get hpl
      obtain ⟨ds, k1, k2, _, k4⟩ := rowed_parts (M := memOf w) (cs := cs) pl 0 ty.size hrow (by omega) (Q := fun i ds => ∃ p, (fs.toList.map fun f => (f.type, f.offset))[i]? = some p ∧ Sh C f p.1 ds) (fun i p hp0 => by
        obtain ⟨t', ty', a, b, c⟩ := hget i p hp0
        obtain ⟨fd, e1, e2, e3⟩ := fieldsOf_get a
        simp only [] at e2 e3
        have hmem := List.mem_of_getElem? a
        simp only [List.all_eq_true] at ht hw1
        have hx := hf i fd e1
        have hil : i < xs.length := by rw [hxl]; exact (Array.getElem?_eq_some_iff.1 e1).1
        rw [List.getElem?_eq_getElem hil, e2, e3, cellsOf_of (hC _ _ b), c] at hx
        obtain ⟨ds, q1, q2⟩ := trod_rep hC f m _ _ _ hx (ht _ hmem) (hw1 _ hmem) (by
          rcases hp' with hp | hp
          · exact .inl fun v hv => hp v (List.mem_of_mem_drop (List.mem_of_mem_take hv))
          · simp only [List.all_eq_true] at hp; exact .inr (hp _ hmem))
        exact ⟨ds, q1, _, a, q2⟩)
      simp only [List.drop_zero, Nat.sub_zero] at k1 k2 k4
      rw [← hl, List.take_length] at k1
      refine ⟨ds, k1, k2, fun p hpm => ?_⟩
      obtain ⟨i, hi'⟩ := List.mem_iff_getElem?.1 hpm
      have hil : i < pl.length := by rw [← hlen]; exact (List.getElem?_eq_some_iff.1 hi').1
      obtain ⟨t', ty', a, b, c⟩ := hget i pl[i] (List.getElem?_eq_getElem hil)
      rw [hi'] at a; cases a
      obtain ⟨_, p', q1, q2⟩ := k4 i pl[i] (List.getElem?_eq_getElem hil)
      rw [hi'] at q1; cases q1
      exact ⟨ty', b, by rw [c]; exact q2⟩
    case array m e =>
      obtain ⟨xs, m', rfl, _, hl, hxl, hf⟩ := DataW.trod_array hd h
      rw [cellsOf_of hto] at hl
      simp only [Bool.and_eq_true] at hw
      obtain ⟨hw1, hw2⟩ := hw
      split at hw2
      case h_2 => cases hw2
      rename_i te hte
      have hsz : ty.size = m * te.size := by simpa using hw2
      have hce := cellsOf_of (hC _ _ hte)
      have hpart := list_parts cs m te.size (by rw [hl, hsz])
      obtain ⟨G, g1, g2⟩ := zD.join (M := memOf w) (Q := fun _ ds => Sh C f e ds) m (fun i => (cs.drop (i * te.size)).take te.size) (fun i hi => by
        have hx := hf i hi
        rw [List.getElem?_eq_getElem (by omega), hce] at hx
        exact trod_rep hC f m' _ _ _ hx ht hw1 (by
          rcases hp' with hp | hp
          · exact .inl fun v hv => hp v (List.mem_of_mem_drop (List.mem_of_mem_take hv))
          · exact .inr hp))
      rw [← hpart] at g1
      have hGl : ∀ i, i < m → (G i).length = te.size := by
        intro i hi
        rw [← (g2 i hi).1.length, List.length_take, List.length_drop, hl, hsz]
        have : (i + 1) * te.size ≤ m * te.size := Nat.mul_le_mul_right _ hi
        rw [Nat.add_mul] at this; omega
      refine ⟨_, g1, by rw [← g1.length]; exact hl, te, hte, fun i hi => ?_⟩
      rw [flatMap_part m G te.size hGl i hi]
      exact (g2 i hi).2
    case slice e =>
      simp only [Bool.and_eq_true] at hw
      obtain ⟨_, hw2⟩ := hw
      split at hw2
      case h_2 => cases hw2
      rename_i te hte
      simp only [Bool.and_eq_true, decide_eq_true_eq] at hw2
      obtain ⟨hw2, hpos⟩ := hw2
      have hce := cellsOf_of (hC _ _ hte)
      rcases Go.Deep.open_slice hd h with ⟨rfl, _⟩ | ⟨a, len, cap, m, n', Dd, Pl, rfl, hb, hl, hm, hmm, _, hx⟩
      · exact ⟨[.sl true [] 0 none], by simp [zD, Rep], .inl rfl⟩
      · have hlm : len ≤ m := by rw [hmm]; split <;> omega
        have hsp : a.spot = none := by
          rcases hp' with hp | hp
          · exact hp _ (by simp) a len cap rfl
          · cases hp
        obtain ⟨b, o, s⟩ := a
        simp only [] at hsp; subst hsp
        obtain ⟨G, hG⟩ := Go.Deep.choose_lt (α := D) (p := fun i d => (∃ u, Rep (memOf w) noLoc d u ∧ u.cells.size = te.size ∧ MemAt (memOf w) b (o + i * te.size) u.cells) ∧ Sh C f e d.cells ∧ (te.isAgg = true → d = .agg d.cells) ∧ (te.isAgg = false → d.cells = [d])) (n := len) (fun i hi => by
          obtain ⟨cs', c1, c2⟩ := hx i (by omega)
          obtain ⟨_, c3, c4⟩ := World.cells?_some c1
          obtain ⟨ds, q1, q2⟩ := trod_rep hC f n' e cs' _ c2 (flat_top ht) hw2 (.inr ht)
          rw [hce] at c3 c4
          have hM : MemAt (memOf w) b (o + i * te.size) cs'.toArray := by
            intro j u hu
            have hj : j < te.size := by
              have := (Array.getElem?_eq_some_iff.1 hu).1; simpa [c3] using this
            have := c4 j hj
            rw [addr_add, addr_add] at this
            unfold memOf
            rw [this]; simpa using hu
          cases hag : te.isAgg with
          | true =>
            refine ⟨.agg ds, ⟨.agg cs'.toArray, ?_, by simpa [Value.cells] using c3, hM⟩, q2, fun _ => rfl, fun h => by simp at h⟩
            simp only [Rep]; exact ⟨_, rfl, by simpa using q1⟩
          | false =>
            -- one cell
            obtain ⟨i2, d2, _, hd2, _, hk2, _, _⟩ := tyOf_spec (hC _ _ hte)
            have h1 : te.size = 1 ∧ ∃ d v, ds = [d] ∧ d.cells = [d] ∧ cs' = [v] ∧ v.cells = #[v] := by
              cases f with
              | zero => cases ht
              | succ f =>
                unfold flatT at ht; unfold rowedT at hw2; unfold Sh at q2
                rw [hte] at ht hw2 q2; simp only [] at ht hw2 q2
                cases d2 <;> simp only [tkOf] at hk2 <;> rw [hk2] at ht hw2 q2 <;> simp only [] at ht hw2 q2 <;> (try (cases ht; done))
                · obtain ⟨b', rfl⟩ := q2
                  simp only [zD, Rep] at q1
                  obtain ⟨v, r, rfl, rfl, rfl⟩ := q1
                  exact ⟨by simpa using hw2, _, _, rfl, rfl, rfl, rfl⟩
                · obtain ⟨z, rfl, _⟩ := q2
                  simp only [zD, Rep] at q1
                  obtain ⟨v, r, rfl, rfl, rfl⟩ := q1
                  exact ⟨by simpa using hw2, _, _, rfl, rfl, rfl, rfl⟩
                · obtain ⟨z, rfl, _⟩ := q2
                  simp only [zD, Rep] at q1
                  obtain ⟨v, r, rfl, rfl, rfl⟩ := q1
                  exact ⟨by simpa using hw2, _, _, rfl, rfl, rfl, rfl⟩
                · simp [Ty.isAgg, hk2] at hag
                · simp [Ty.isAgg, hk2] at hag
            obtain ⟨hsz, dd, v, rfl, hdc, rfl, hvc⟩ := h1
            simp only [zD] at q1
            obtain ⟨v', r, e1, q1, rfl⟩ := q1
            cases e1
            refine ⟨dd, ⟨v, q1, by rw [hvc, hsz]; rfl, by rw [hvc]; exact hM⟩, by rw [hdc]; exact q2, fun h => by simp at h, fun _ => hdc⟩)
        refine ⟨[.sl false ((List.range len).map G) te.size none], ?_, .inr ⟨_, te, hte, rfl, by simp; omega, fun d hd' => ?_⟩⟩
        · simp only [zD, Rep]
          refine ⟨_, [], rfl, ⟨by simp, fun _ => ⟨b, o, cap, by simp, by simpa using hl, hm, by simp, RepE.ofGet fun i d hd' => ?_⟩⟩, rfl⟩
          rw [List.getElem?_map] at hd'
          have hi' : i < len := by
            rcases Nat.lt_or_ge i len with h | h
            · exact h
            · rw [List.getElem?_eq_none (by simpa using h)] at hd'; cases hd'
          rw [List.getElem?_range hi'] at hd'; cases hd'
          exact (hG i hi').1
        · obtain ⟨i, hi', rfl⟩ := List.mem_map.1 hd'
          exact (hG i (by simpa using hi')).2

/-- An argument. -/
theorem plain_arg {P : Program} {r : Reach} {base : Nat} {t : TypeId} {v : Value} (h : Value.okWide P w r base t v) : plainCells v.cells.toList := by
  have key : ∀ u x, Cell.okWide P w r base u x → ∀ a l c, x = .slice (some a) l c → a.spot = none := by
    rintro u x hx a l c rfl
    unfold Cell.okWide at hx
    split at hx <;> try (rename_i h1 h2; cases h2; done)
    unfold Cell.ok at hx
    split at hx <;> try (rename_i h1 h2; cases h2; done)
    · rename_i h1 h2
      cases h2
      exact hx.2.2.2.1
    · cases hx
  unfold Value.okWide at h
  split at h
  · obtain ⟨cs, rfl, _, ts, _, _, hc⟩ := h
    intro x hx
    obtain ⟨i, hi⟩ := List.mem_iff_getElem?.1 hx
    obtain ⟨u, _, hu⟩ := hc i x (by simpa [Value.cells] using hi)
    exact key u x hu
  · obtain ⟨cs, rfl, _, ts, _, _, hc⟩ := h
    intro x hx
    obtain ⟨i, hi⟩ := List.mem_iff_getElem?.1 hx
    obtain ⟨u, _, hu⟩ := hc i x (by simpa [Value.cells] using hi)
    exact key u x hu
  · intro x hx a l c e
    have hv : x = v ∨ ∃ cs, v = .agg cs := by
      cases v <;> first | exact .inr ⟨_, rfl⟩ | (left; simpa [Value.cells] using hx)
    rcases hv with rfl | ⟨cs, rfl⟩
    · exact key t x h a l c e
    · exfalso
      unfold Cell.okWide at h
      split at h <;> try (rename_i h1 h2; cases h2; done)
      unfold Cell.ok at h
      split at h <;> first | (rename_i h1 h2; cases h2; done) | cases h
end
end Go.VS
/-
  VS, part P2: what a law's call leaves, as its row says it. (A text of this claim's own; nothing of it is trusted.)
-/
namespace Go.VS
open Go Go.RowKit Go.ChangeShapes Go.WideShapes

section
variable {H : Type} {enc : TypeId × Value → H} {P : Program}
theorem trodAll_carry {w w' : World} {base : Nat} {sp : Nat → Bool} {held : Bool} : ∀ {ts : List TypeId} {vs : List Value} {ds : List (DataW H)} {ps : List MemPlace}, DataW.TrodAll enc P w base sp held ts vs ds ps → (∀ p ∈ ps, w.sameAt w' p) → DataW.TrodAll enc P w' base sp held ts vs ds ps
  | [], [], [], _, h, _ => h
  | _ :: _, _ :: _, _ :: _, _, ⟨p, q, ⟨n, h1⟩, h2, e⟩, hs => ⟨p, q, ⟨n, DataW.trod_carry n _ _ _ h1 (fun x hx => hs x (by rw [e]; exact List.mem_append_left _ hx))⟩, trodAll_carry h2 (fun x hx => hs x (by rw [e]; exact List.mem_append_right _ hx)), e⟩
theorem sameAt_of {w w' : World} (h : ∀ b, b < w.heap.size → w'.heap[b]? = w.heap[b]?) : ∀ p : MemPlace, p.block < w.heap.size → w.sameAt w' p
  | .cell b off, hp => by
    show w'.cell? ⟨b, off, none⟩ = w.cell? ⟨b, off, none⟩
    unfold World.cell?
    rw [h b hp]
  | .map b, hp => h b hp
theorem post_same {f : Func} {s : ChangeSpec} {apart fresh handsOn again : Bool} {W W' : World} {args : Array Value} {v : Value} {ds gs : List (DataW H)} {before pa pv : List MemPlace}
    (hW : DataW.Whole enc P f.params.toList s.vars apart W args.toList ds gs before)
    (hres : ∀ (b : Nat) (sp : Nat → Bool) (hd : Bool), DataW.TrodAll enc P W' b sp hd f.resultTypes.toList (v.resultList f.resultTypes.size) (s.fn H (ds ++ gs)).results [])
    (hargs : ∀ sp : Nat → Bool, (∀ p ∈ before, sp p.block = true) → DataW.TrodAll enc P W' 0 sp true f.params.toList args.toList (s.fn H (ds ++ gs)).args pa)
    (hvars : ∀ sp : Nat → Bool, (∀ p ∈ before, sp p.block = true) → DataW.TrodVars enc P W' sp s.vars (s.fn H (ds ++ gs)).vars pv)
    (hps : before = pa ++ pv) (hk : W.keptBut W' (· ∈ before)) (hfz : ∀ p ∈ before, ∀ b off, p = .cell b off → W'.frozen? ⟨b, off, none⟩ = W.frozen? ⟨b, off, none⟩)
    (hok : ∀ (j : Nat) (t : TypeId) (r : Value), f.resultTypes[j]? = some t → (v.resultList f.resultTypes.size)[j]? = some r → Value.okWide P W' .any 0 t r) :
    s.post enc P f apart fresh handsOn again W args v W' := by
  have hold : ∀ p ∈ before, (fun b => decide (b < W.heap.size)) p.block = true := fun p hp => by simpa using hW.lt p hp
  refine ⟨ds, gs, before, [], pa, pv, hW, hres _ _ _, hargs _ hold, hvars _ hold, World.keptBut_mono (fun p hp => ⟨hp, ?_⟩) hk, fun _ => ?_⟩
  · rw [hps, List.mem_append] at hp
    exact Or.inr hp
  · obtain ⟨_, _, _, _, _, hz, hn⟩ := hW
    refine ⟨hok, _, _, ([] ++ pa) ++ pv, ⟨[] ++ pa, pv, trodAll_append (hargs _ (fun _ _ => rfl)) (hres _ _ _), hvars _ (fun _ _ => rfl), rfl, ?_, ?_⟩, ?_⟩
    · intro b off hp
      have hp' : MemPlace.cell b off ∈ before := by rw [hps]; simpa using hp
      rw [hfz _ hp' b off rfl]
      exact hz b off hp'
    · intro ha
      have := hn ha
      rw [hps] at this
      simpa using this
    · intro p hp _
      rw [hps]
      simpa using hp

theorem law_post {C : Cfg} (hC : CfgOK C) (hX : ExtOK C) (hl : laidOutB C.P = true) (hm : mapsRowed C.P = true) (hz : ∀ t e, t < C.P.types.size → C.P.underlying t = some (.slice e) → 0 < C.P.cellsOf e)
    {K : FuncId} {dsD : List D} (hpure : (lim C).pure K dsD = some (B true)) {W : World} {args : Array Value} (hrep : zD (memOf W) noLoc dsD args.toList) (hG : GlobOK C (memOf W))
    {f : Func} {s : ChangeSpec} {apart fresh handsOn again : Bool} {ds gs : List (DataW H)} {before : List MemPlace}
    (hW : DataW.Whole enc C.P f.params.toList s.vars apart W args.toList ds gs before) (hv : s.vars = [])
    (hfn : s.fn H ds = { results := [.lit (.bool true)], args := ds }) {tb : TypeId} (hres : f.resultTypes = #[tb]) (htb : C.P.underlying tb = some .bool)
    (hts : ∀ t ∈ f.params.toList, t < C.P.types.size) :
    Calls C.P K args W fun e W' => ∃ v, e = .returned v ∧ s.post enc C.P f apart fresh handsOn again W args v W' := by
  refine (lim_sound hC hX hpure (memOf W) W args (memOf_ok W) hG hrep).mono ?_
  rintro e W' ⟨v, M', rfl, k1, k2, k3, k4, k5, k6, k7, k8, k9⟩
  simp only [Rep] at k3; subst k3
  have hW' := hW
  obtain ⟨p, q, hA, hVars, rfl, hnf, hnd⟩ := hW'
  rw [hv] at hVars
  obtain ⟨rfl, rfl⟩ : gs = [] ∧ q = [] := by
    cases gs with
    | nil => exact ⟨rfl, hVars⟩
    | cons g gs => cases hVars
  have hlt := hW.lt
  refine ⟨_, rfl, post_same (pa := p) (pv := []) hW ?_ ?_ ?_ rfl ?_ ?_ ?_⟩
  · intro b sp hd
    rw [List.append_nil, hfn, hres]
    refine ⟨[], [], ⟨1, ?_⟩, rfl, rfl⟩
    simp [DataW.trod, htb, Value.cells]
  · intro sp hsp
    rw [List.append_nil, hfn]
    refine trodAll_carry (DataW.TrodAll.respare (T := (· < C.P.types.size)) (kids_rows hl hm) hz hts hA (fun p hp => hsp p (by simpa using hp))) (fun p hp => sameAt_of k8 p (hlt p (by simpa using hp)))
  · intro sp hsp
    rw [List.append_nil, hfn, hv]; rfl
  · refine ⟨k4, k6, fun i hi => ?_⟩
    rw [k8 i hi]
    cases hh : W.heap[i]? with
    | none => trivial
    | some o => cases o <;> simp
  · rintro _ hp b off rfl
    unfold World.frozen?
    rw [k8 b (hlt _ hp)]
  · intro j t r h1 h2
    rw [hres] at h1 h2
    cases j with
    | zero =>
      simp at h1; subst h1
      simp [Value.resultList] at h2; subst h2
      simp [Value.okWide, htb, Cell.okWide, Cell.ok]
    | succ j => simp at h1
end
end Go.VS
