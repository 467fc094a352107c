/- Nothing of a statement is proved in this text alone: it is part 5 of the proof's own tools, an evaluator of the code over deep values, its soundness, and what it makes of this seat's functions. Conditions: none beyond the statement's own. -/
import Derived.Test.YtbndhgnkgoggmaaDoorVsCardT4
import Derived.OpenShut
import Derived.Deep.Slices
import Derived.ChangeStays
import Derived.ReadAgain
import Derived.ChangeSame
import Derived.ChangeBears2
import Derived.Test.YtbndhgnkgoggmaaDoorCards
import Derived.Test.YtbndhgnkgoggmaaDoorTie
import Derived.WalkKit
import Derived.ProofKit
import Derived.Deep.DeepHandedRow
import Derived.Lib.LaidTab
set_option linter.unusedSimpArgs false
set_option linter.unusedVariables false
namespace Go.VS
open Go Go.Proofs
set_option maxHeartbeats 0
set_option linter.unusedSimpArgs false

noncomputable def lp84_3 : Code := zz [1, 1, 0, 1, 0, 0] (zn Tryd.f84)
theorem lk84_3 : cfg.keep 84 (zr lp84_3) = [1, 2, 4, 5, 6] := by kernel_rfl
noncomputable def lp84_8 : Code := zz [1, 1, 1, 1, 0, 1, 0, 0] (zn Tryd.f84)
theorem lk84_8 : cfg.keep 84 (zr lp84_8) = [4, 5, 7, 8] := by kernel_rfl

noncomputable def lp80_2 : Code := zz [1, 0, 1, 0, 0] (zn Tryd.f80)
theorem lk80_2 : cfg.keep 80 (zr lp80_2) = [1, 3] := by kernel_rfl
noncomputable def lp80_6 : Code := zz [1, 0, 1, 0, 0, 1, 0, 0, 1, 1, 0, 0] (zn Tryd.f80)
theorem lk80_6 : cfg.keep 80 (zr lp80_6) = [1, 3, 4, 5] := by kernel_rfl

noncomputable def lp82_7 : Code := zz [1, 1, 1, 0, 1, 0, 0] (zn Tryd.f82)
theorem lk82_7 : cfg.keep 82 (zr lp82_7) = [1, 2, 3, 8] := by kernel_rfl

def diagF (k : Nat) : NetF := fun i j => if i = j ∧ i < k then ⟨1, 1⟩ else ⟨0, 0⟩
theorem cN_drop {c : NetF} : (cN c).drop 50 = [] := rfl
theorem diag_step {k : Nat} (hk : k < 5) : cN (putF (diagF k) k k ⟨1, 1⟩) = cN (diagF (k + 1)) := by
  rcases five hk with rfl | rfl | rfl | rfl | rfl <;> rfl
theorem L84_3 {F : Exit → St → Option D} (p : Paper) (ax : Int) (k : List Kt) (x : D) (h : zC cfg (lim cfg) 84 F k (.exit 0) ⟨29, [(10, B false), (9, I (5 : Nat)), (1, I ax), (2, .lref 0 0 3 0), (4, .lref 1 0 50 0), (5, .lref 2 0 50 0), (6, I (5 : Nat))], [(0, ⟨[zt p], 3, false⟩), (1, ⟨[.agg zN], 50, false⟩), (2, ⟨[.agg (cN (diagF 5))], 50, false⟩)], 3, 0⟩ = some x) : ∀ (n i : Nat), i + n = 5 → EvL cfg (lim cfg) 84 F lp84_3 k ⟨29, [(1, I ax), (2, .lref 0 0 3 0), (4, .lref 1 0 50 0), (5, .lref 2 0 50 0), (6, I (i : Nat))], [(0, ⟨[zt p], 3, false⟩), (1, ⟨[.agg zN], 50, false⟩), (2, ⟨[.agg (cN (diagF i))], 50, false⟩)], 3, 0⟩ = some x := by
  intro n
  induction n with
  | zero =>
    intro i hi
    obtain rfl : i = 5 := by omega
    refine zk ?_
    try dsimp only [lp84_3, zz, zn, Tryd.f84]
    simp only [bW, if_true, Nat.reduceEqDiff, if_false]
    repeat' first
      | (intro hb; first | cases hb | skip)
      | ((first | apply z8 | apply ze)
         · rfl
         · simp (disch := assumption) only [go_sem, Nat.reduceEqDiff, Nat.reduceAdd, bP, zf, Nat.reduceLeDiff, Nat.reduceLT, Nat.reduceMul, List.length_append, decide_eq_true_eq, z9, z6, Int.reduceToNat, Int.reduceLE, Int.reduceLT, Int.reduceBNe, Int.reduceBEq, show (decide (((5 : Nat) : Int) < 5)) = false from rfl]
           rfl
         · simp only [go_sem, Nat.reduceLT, Nat.reduceEqDiff]
           rfl
         · rfl
         first
         | (apply zd
            · simp only [z5, z0, Nat.reduceLT, decide_true, cond_true, ins]
              rfl
            · simp only [z5, z0, Nat.reduceLT, decide_true, cond_true, ins]
              rfl)
         | (apply zh
            · simp only [z5, z0, Nat.reduceLT, decide_true, cond_true, ins]
              rfl))
      | ((first | apply zb | apply zc)
         · rfl
         · simp only [z5, z0, Nat.reduceLT, decide_true, cond_true, ins]
           rfl)
      | (apply za
         · simp only [go_sem, Nat.reduceEqDiff])
      | (apply z7
         · simp only [go_sem, Nat.reduceEqDiff])
      | (apply zg
         · kernel_rfl
         · kernel_rfl)
      | (simp only [bW, if_true, Nat.reduceEqDiff, if_false])
    exact h
  | succ n ih =>
    intro i hi
    have hi5 : i < 5 := by omega
    have hi1 : ((i : Int) < 5) = True := by simp; omega
    have hi2 : (i < 5) = True := by simp; omega
    have hw3 : IntKind.i64.wrap ((i : Int) + 1) = ((i + 1 : Nat) : Int) := by rw [wrap_i64 (by omega) (by omega)]; omega
    have ha50 : (i * 10 + i * 2 + 2 ≤ 50) = True := by simp; omega
    have hput := (cN_put (c := diagF i) (r := ⟨1, 1⟩) hi5 hi5).trans (diag_step hi5)
    simp only [] at hput
    refine zk ?_
    try dsimp only [lp84_3, zz, zn, Tryd.f84]
    simp only [bW, if_true, Nat.reduceEqDiff, if_false]
    repeat' first
      | (intro hb; first | cases hb | skip)
      | ((first | apply z8 | apply ze)
         · rfl
         · simp (disch := assumption) only [go_sem, Nat.reduceEqDiff, Nat.reduceAdd, bP, zf, Nat.reduceLeDiff, Nat.reduceLT, Nat.reduceMul, List.length_append, decide_eq_true_eq, z9, z6, Int.reduceToNat, Int.reduceLE, Int.reduceLT, Int.reduceBNe, Int.reduceBEq, hi1, hi2, hw3, ha50, hput, cN_len, cN_one, cN_take, zN_len, zN_one, zN_drop]
           rfl
         · simp only [go_sem, Nat.reduceLT, Nat.reduceEqDiff]
           rfl
         · rfl
         first
         | (apply zd
            · simp only [z5, z0, Nat.reduceLT, decide_true, cond_true, ins]
              rfl
            · simp only [z5, z0, Nat.reduceLT, decide_true, cond_true, ins]
              rfl)
         | (apply zh
            · simp only [z5, z0, Nat.reduceLT, decide_true, cond_true, ins]
              rfl))
      | ((first | apply zb | apply zc)
         · rfl
         · simp only [z5, z0, Nat.reduceLT, decide_true, cond_true, ins]
           rfl)
      | (apply za
         · simp only [go_sem, Nat.reduceEqDiff])
      | (apply z7
         · simp only [go_sem, Nat.reduceEqDiff])
      | (apply zg
         · kernel_rfl
         · kernel_rfl)
      | (simp only [bW, if_true, Nat.reduceEqDiff, if_false])
    refine zu (st1 := ⟨29, [(1, I ax), (2, .lref 0 0 3 0), (4, .lref 1 0 50 0), (5, .lref 2 0 50 0), (6, I (i + 1 : Nat))], [(0, ⟨[zt p], 3, false⟩), (1, ⟨[.agg zN], 50, false⟩), (2, ⟨[.agg (cN (diagF (i + 1)))], 50, false⟩)], 3, 0⟩) lk84_3 (by
      simp only [go_sem, List.map_append, Nat.reduceEqDiff, Nat.reduceLT, Nat.reduceAdd, bI, bD, bI2, cN_ids, cN_ren, zN_ids, zN_ren]
      try rfl) (ih (i + 1) (by omega))

theorem L84_8 {F : Exit → St → Option D} (es : List Edge) (k : List Kt) (x : D) (hes : ∀ e ∈ es, eB e) (hlen : es.length ≤ 1000) : ∀ (n i : Nat) (c : NetF), i + n = 5 → nB (2000 ^ i) c →
    zC cfg (lim cfg) 84 F k (.exit 2) ⟨29, [(22, B false), (21, I (5 : Nat)), (4, .lref 0 0 50 0), (5, .lref 1 0 50 0), (7, .sl false (es.map encY) 7 none), (8, I (5 : Nat))], [(0, ⟨[.agg zN], 50, false⟩), (1, ⟨[.agg (cN (iterF es n c))], 50, false⟩)], 2, 0⟩ = some x →
    EvL cfg (lim cfg) 84 F lp84_8 k ⟨29, [(4, .lref 0 0 50 0), (5, .lref 1 0 50 0), (7, .sl false (es.map encY) 7 none), (8, I (i : Nat))], [(0, ⟨[.agg zN], 50, false⟩), (1, ⟨[.agg (cN (c))], 50, false⟩)], 2, 0⟩ = some x := by
  intro n
  induction n with
  | zero =>
    intro i c hi hc h
    obtain rfl : i = 5 := by omega
    simp only [iterF] at h
    refine zk ?_
    try dsimp only [lp84_8, zz, zn, Tryd.f84]
    simp only [bW, if_true, Nat.reduceEqDiff, if_false]
    repeat' first
      | (intro hb; first | cases hb | skip)
      | ((first | apply z8 | apply ze)
         · rfl
         · simp (disch := assumption) only [go_sem, Nat.reduceEqDiff, Nat.reduceAdd, bP, zf, Nat.reduceLeDiff, Nat.reduceLT, Nat.reduceMul, List.length_append, decide_eq_true_eq, z9, z6, Int.reduceToNat, Int.reduceLE, Int.reduceLT, Int.reduceBNe, Int.reduceBEq, show (decide (((5 : Nat) : Int) < 5)) = false from rfl]
           rfl
         · simp only [go_sem, Nat.reduceLT, Nat.reduceEqDiff]
           rfl
         · rfl
         first
         | (apply zd
            · simp only [z5, z0, Nat.reduceLT, decide_true, cond_true, ins]
              rfl
            · simp only [z5, z0, Nat.reduceLT, decide_true, cond_true, ins]
              rfl)
         | (apply zh
            · simp only [z5, z0, Nat.reduceLT, decide_true, cond_true, ins]
              rfl))
      | ((first | apply zb | apply zc)
         · rfl
         · simp only [z5, z0, Nat.reduceLT, decide_true, cond_true, ins]
           rfl)
      | (apply za
         · simp only [go_sem, Nat.reduceEqDiff])
      | (apply z7
         · simp only [go_sem, Nat.reduceEqDiff])
      | (apply zg
         · kernel_rfl
         · kernel_rfl)
      | (simp only [bW, if_true, Nat.reduceEqDiff, if_false])
    exact h
  | succ n ih =>
    intro i c hi hc h
    have hi1 : ((i : Int) < 5) = True := by simp; omega
    have hw3 : IntKind.i64.wrap ((i : Int) + 1) = ((i + 1 : Nat) : Int) := by rw [wrap_i64 (by omega) (by omega)]; omega
    have hp1 : (1 : Int) ≤ 2000 ^ i := Int.pow_pos (by omega)
    have hp2 : (2000 : Int) ^ i ≤ 16000000000000 := by
      rcases five (show i < 5 by omega) with rfl | rfl | rfl | rfl | rfl <;> decide
    have h110 := t110 es c (2000 ^ i) hp1 hp2 hc hes hlen
    have hc' := longB hp1 hc hes
    rw [Int.mul_comm, ← Int.pow_succ] at hc'
    simp only [iterF] at h
    refine zk ?_
    try dsimp only [lp84_8, zz, zn, Tryd.f84]
    simp only [bW, if_true, Nat.reduceEqDiff, if_false]
    repeat' first
      | (intro hb; first | cases hb | skip)
      | ((first | apply z8 | apply ze)
         · rfl
         · simp (disch := assumption) only [go_sem, Nat.reduceEqDiff, Nat.reduceAdd, bP, zf, Nat.reduceLeDiff, Nat.reduceLT, Nat.reduceMul, List.length_append, decide_eq_true_eq, z9, z6, Int.reduceToNat, Int.reduceLE, Int.reduceLT, Int.reduceBNe, Int.reduceBEq, hi1, hw3, h110, cN_snap, cN_flat, okY.snapAll, cN_drop, cN_len, cN_one, cN_take, zN_len, zN_one, zN_drop]
           rfl
         · simp only [go_sem, Nat.reduceLT, Nat.reduceEqDiff]
           rfl
         · rfl
         first
         | (apply zd
            · simp only [z5, z0, Nat.reduceLT, decide_true, cond_true, ins]
              rfl
            · simp only [z5, z0, Nat.reduceLT, decide_true, cond_true, ins]
              rfl)
         | (apply zh
            · simp only [z5, z0, Nat.reduceLT, decide_true, cond_true, ins]
              rfl))
      | ((first | apply zb | apply zc)
         · rfl
         · simp only [z5, z0, Nat.reduceLT, decide_true, cond_true, ins]
           rfl)
      | (apply za
         · simp only [go_sem, Nat.reduceEqDiff])
      | (apply z7
         · simp only [go_sem, Nat.reduceEqDiff])
      | (apply zg
         · kernel_rfl
         · kernel_rfl)
      | (simp only [bW, if_true, Nat.reduceEqDiff, if_false])
    refine zu (st1 := ⟨29, [(4, .lref 0 0 50 0), (5, .lref 1 0 50 0), (7, .sl false (es.map encY) 7 none), (8, I (i + 1 : Nat))], [(0, ⟨[.agg zN], 50, false⟩), (1, ⟨[.agg (cN (foldF c es c))], 50, false⟩)], 2, 0⟩) lk84_8 (by
      simp only [go_sem, List.map_append, Nat.reduceEqDiff, Nat.reduceLT, Nat.reduceAdd, bI, bD, bI2, cN_ids, cN_ren, zN_ids, zN_ren]
      try rfl) (ih (i + 1) _ (by omega) hc' h)

theorem t84 (p : Paper) (ax : Int) (hwf : p.wf) (hok : zq p = true) : (lim cfg).pure 84 [zt p, I ax] = some (.agg (cN (netR p ax))) := by
  have h109 := t109 p ax hwf hok
  obtain ⟨r1, r2⟩ := refE_len hok ax
  have hb := refE_B hok ax
  unfold netR
  rw [show startF = diagF 5 from rfl]
  generalize refE p ax = es at *
  refine zm (zj 84) cfn84 rfl (n := 29) rfl ?_
  generalize hF : finP cfg Tryd.f84 = F
  simp only [bW, if_true, Nat.reduceEqDiff, if_false, zl]
  repeat' first
    | (intro hb; first | cases hb | skip)
    | ((first | apply z8 | apply ze)
       · rfl
       · simp (disch := assumption) only [go_sem, Nat.reduceEqDiff, Nat.reduceAdd, bP, zf, Nat.reduceLeDiff, Nat.reduceLT, Nat.reduceMul, List.length_append, decide_eq_true_eq, z9, z6, Int.reduceToNat, Int.reduceLE, Int.reduceLT, Int.reduceBNe, Int.reduceBEq, cN_len, cN_one, cN_take, zN_len, zN_one, zN_drop]
         rfl
       · simp only [go_sem, Nat.reduceLT, Nat.reduceEqDiff]
         rfl
       · rfl
       first
       | (apply zd
          · simp only [z5, z0, Nat.reduceLT, decide_true, cond_true, ins]
            rfl
          · simp only [z5, z0, Nat.reduceLT, decide_true, cond_true, ins]
            rfl)
       | (apply zh
          · simp only [z5, z0, Nat.reduceLT, decide_true, cond_true, ins]
            rfl))
    | ((first | apply zb | apply zc)
       · rfl
       · simp only [z5, z0, Nat.reduceLT, decide_true, cond_true, ins]
         rfl)
    | (apply za
       · simp only [go_sem, Nat.reduceEqDiff])
    | (apply z7
       · simp only [go_sem, Nat.reduceEqDiff])
    | (apply zg
       · kernel_rfl
       · kernel_rfl)
    | (simp only [bW, if_true, Nat.reduceEqDiff, if_false])
  refine w_loop (st1 := ⟨29, [(1, I ax), (2, .lref 0 0 3 0), (4, .lref 1 0 50 0), (5, .lref 2 0 50 0), (6, I (0 : Nat))], [(0, ⟨[zt p], 3, false⟩), (1, ⟨[.agg zN], 50, false⟩), (2, ⟨[.agg (cN (diagF 0))], 50, false⟩)], 3, 0⟩) lk84_3 (by
    simp only [go_sem, List.map_append, Nat.reduceEqDiff, Nat.reduceLT, Nat.reduceAdd, bI, bD, bI2, cN_ids, cN_ren, zN_ids, zN_ren]
    try rfl) (L84_3 p ax _ _ ?_ 5 0 rfl)
  simp only [bW, if_true, Nat.reduceEqDiff, if_false]
  repeat' first
    | (intro hb; first | cases hb | skip)
    | ((first | apply z8 | apply ze)
       · rfl
       · simp (disch := assumption) only [go_sem, Nat.reduceEqDiff, Nat.reduceAdd, bP, zf, Nat.reduceLeDiff, Nat.reduceLT, Nat.reduceMul, List.length_append, decide_eq_true_eq, z9, z6, Int.reduceToNat, Int.reduceLE, Int.reduceLT, Int.reduceBNe, Int.reduceBEq, h109, cN_len, cN_one, cN_take, zN_len, zN_one, zN_drop]
         rfl
       · simp only [go_sem, Nat.reduceLT, Nat.reduceEqDiff]
         rfl
       · rfl
       first
       | (apply zd
          · simp only [z5, z0, Nat.reduceLT, decide_true, cond_true, ins]
            rfl
          · simp only [z5, z0, Nat.reduceLT, decide_true, cond_true, ins]
            rfl)
       | (apply zh
          · simp only [z5, z0, Nat.reduceLT, decide_true, cond_true, ins]
            rfl))
    | ((first | apply zb | apply zc)
       · rfl
       · simp only [z5, z0, Nat.reduceLT, decide_true, cond_true, ins]
         rfl)
    | (apply za
       · simp only [go_sem, Nat.reduceEqDiff])
    | (apply z7
       · simp only [go_sem, Nat.reduceEqDiff])
    | (apply zg
       · kernel_rfl
       · kernel_rfl)
    | (simp only [bW, if_true, Nat.reduceEqDiff, if_false])
  refine w_loop (st1 := ⟨29, [(4, .lref 0 0 50 0), (5, .lref 1 0 50 0), (7, .sl false (es.map encY) 7 none), (8, I (0 : Nat))], [(0, ⟨[.agg zN], 50, false⟩), (1, ⟨[.agg (cN (diagF 5))], 50, false⟩)], 2, 0⟩) lk84_8 (by
    simp only [go_sem, List.map_append, Nat.reduceEqDiff, Nat.reduceLT, Nat.reduceAdd, bI, bD, bI2, cN_ids, cN_ren, zN_ids, zN_ren]
    try rfl) (L84_8 es _ _ hb r1 5 0 _ rfl startB ?_)
  simp only [bW, if_true, Nat.reduceEqDiff, if_false]
  repeat' first
    | (intro hb; first | cases hb | skip)
    | ((first | apply z8 | apply ze)
       · rfl
       · simp (disch := assumption) only [go_sem, Nat.reduceEqDiff, Nat.reduceAdd, bP, zf, Nat.reduceLeDiff, Nat.reduceLT, Nat.reduceMul, List.length_append, decide_eq_true_eq, z9, z6, Int.reduceToNat, Int.reduceLE, Int.reduceLT, Int.reduceBNe, Int.reduceBEq, cN_len, cN_one, cN_take, zN_len, zN_one, zN_drop]
         rfl
       · simp only [go_sem, Nat.reduceLT, Nat.reduceEqDiff]
         rfl
       · rfl
       first
       | (apply zd
          · simp only [z5, z0, Nat.reduceLT, decide_true, cond_true, ins]
            rfl
          · simp only [z5, z0, Nat.reduceLT, decide_true, cond_true, ins]
            rfl)
       | (apply zh
          · simp only [z5, z0, Nat.reduceLT, decide_true, cond_true, ins]
            rfl))
    | ((first | apply zb | apply zc)
       · rfl
       · simp only [z5, z0, Nat.reduceLT, decide_true, cond_true, ins]
         rfl)
    | (apply za
       · simp only [go_sem, Nat.reduceEqDiff])
    | (apply z7
       · simp only [go_sem, Nat.reduceEqDiff])
    | (apply zg
       · kernel_rfl
       · kernel_rfl)
    | (simp only [bW, if_true, Nat.reduceEqDiff, if_false])
  subst hF
  simp only [go_sem, Nat.reduceEqDiff, bP, Nat.reduceAdd, Nat.reduceLeDiff, List.length_map, Tryd.f84, cN_len, cN_one, cN_take, zN_len, zN_one, zN_drop, cN_snap]

theorem t98 (n d : Int) : (lim cfg).pure 98 [.agg [I n, I d]] = some (.agg [I d, I n]) := by
  refine zm (zj 98) cfn98 rfl (n := 8) rfl ?_
  simp only [bW, if_true, Nat.reduceEqDiff, if_false, zl]
  repeat' first
    | (intro hb; first | cases hb | skip)
    | ((first | apply z8 | apply ze)
       · rfl
       · simp (disch := assumption) only [go_sem, Nat.reduceEqDiff, Nat.reduceAdd, bP, zf, Nat.reduceLeDiff, Nat.reduceLT, Nat.reduceMul, List.length_append, decide_eq_true_eq, z9, z6, Int.reduceToNat, Int.reduceLE, Int.reduceLT, Int.reduceBNe, Int.reduceBEq]
         rfl
       · simp only [go_sem, Nat.reduceLT, Nat.reduceEqDiff]
         rfl
       · rfl
       first
       | (apply zd
          · simp only [z5, z0, Nat.reduceLT, decide_true, cond_true, ins]
            rfl
          · simp only [z5, z0, Nat.reduceLT, decide_true, cond_true, ins]
            rfl)
       | (apply zh
          · simp only [z5, z0, Nat.reduceLT, decide_true, cond_true, ins]
            rfl))
    | ((first | apply zb | apply zc)
       · rfl
       · simp only [z5, z0, Nat.reduceLT, decide_true, cond_true, ins]
         rfl)
    | (apply za
       · simp only [go_sem, Nat.reduceEqDiff])
    | (apply z7
       · simp only [go_sem, Nat.reduceEqDiff])
    | (apply zg
       · kernel_rfl
       · kernel_rfl)
    | (simp only [bW, if_true, Nat.reduceEqDiff, if_false])
  all_goals simp only [go_sem, Nat.reduceEqDiff, bP, Nat.reduceAdd, Nat.reduceLeDiff, List.length_map, Tryd.f98]
  all_goals first | rfl | (simp_all []; done) | (simp_all []; intros; omega)

theorem L80_6 {F : Exit → St → Option D} (p : Paper) (c : NetF) (a : Int) (k : List Kt) (x : D) (hk : ∀ st, get st.tmps 2 = B false → zC cfg (lim cfg) 80 F k .ret st = some (B false)) : ∀ (n j : Nat), j + n = 5 →
    ((∀ i, j ≤ i → i < 5 → diagOK c i = true) → zC cfg (lim cfg) 80 F k (.exit 2) ⟨30, [(14, B false), (13, I (5 : Nat)), (1, .lref 0 0 3 0), (3, I a), (4, .lref 1 0 50 0), (5, I (5 : Nat))], [(0, ⟨[zt p], 3, false⟩), (1, ⟨[.agg (cN (c))], 50, false⟩)], 2, 0⟩ = some x) →
    ((∃ i, j ≤ i ∧ i < 5 ∧ diagOK c i = false) → x = B false) →
    EvL cfg (lim cfg) 80 F lp80_6 k ⟨30, [(1, .lref 0 0 3 0), (3, I a), (4, .lref 1 0 50 0), (5, I (j : Nat))], [(0, ⟨[zt p], 3, false⟩), (1, ⟨[.agg (cN (c))], 50, false⟩)], 2, 0⟩ = some x := by
  intro n
  induction n with
  | zero =>
    intro j hj h h'
    obtain rfl : j = 5 := by omega
    refine zk ?_
    try dsimp only [lp80_6, zz, zn, Tryd.f80]
    simp only [bW, if_true, Nat.reduceEqDiff, if_false]
    repeat' first
      | (intro hb; first | cases hb | skip)
      | ((first | apply z8 | apply ze)
         · rfl
         · simp (disch := assumption) only [go_sem, Nat.reduceEqDiff, Nat.reduceAdd, bP, zf, Nat.reduceLeDiff, Nat.reduceLT, Nat.reduceMul, List.length_append, decide_eq_true_eq, z9, z6, Int.reduceToNat, Int.reduceLE, Int.reduceLT, Int.reduceBNe, Int.reduceBEq, show (decide (((5 : Nat) : Int) < 5)) = false from rfl]
           rfl
         · simp only [go_sem, Nat.reduceLT, Nat.reduceEqDiff]
           rfl
         · rfl
         first
         | (apply zd
            · simp only [z5, z0, Nat.reduceLT, decide_true, cond_true, ins]
              rfl
            · simp only [z5, z0, Nat.reduceLT, decide_true, cond_true, ins]
              rfl)
         | (apply zh
            · simp only [z5, z0, Nat.reduceLT, decide_true, cond_true, ins]
              rfl))
      | ((first | apply zb | apply zc)
         · rfl
         · simp only [z5, z0, Nat.reduceLT, decide_true, cond_true, ins]
           rfl)
      | (apply za
         · simp only [go_sem, Nat.reduceEqDiff])
      | (apply z7
         · simp only [go_sem, Nat.reduceEqDiff])
      | (apply zg
         · kernel_rfl
         · kernel_rfl)
      | (simp only [bW, if_true, Nat.reduceEqDiff, if_false])
    exact h fun i h1 h2 => by omega
  | succ n ih =>
    intro j hj h h'
    have hj5 : j < 5 := by omega
    have hi1 : ((j : Int) < 5) = True := by simp; omega
    have hi2 : (j < 5) = True := by simp; omega
    have hw3 : IntKind.i64.wrap ((j : Int) + 1) = ((j + 1 : Nat) : Int) := by rw [wrap_i64 (by omega) (by omega)]; omega
    obtain ⟨hN, hN2, hD⟩ := cN_get (c := c) hj5 hj5
    cases hd : diagOK c j with
    | true =>
      have hd1 : decide ((c j j).n < (c j j).d) = false := by simpa [diagOK] using hd
      refine zk ?_
      try dsimp only [lp80_6, zz, zn, Tryd.f80]
      simp only [bW, if_true, Nat.reduceEqDiff, if_false]
      repeat' first
        | (intro hb; first | cases hb | skip)
        | ((first | apply z8 | apply ze)
           · rfl
           · simp (disch := assumption) only [go_sem, Nat.reduceEqDiff, Nat.reduceAdd, bP, zf, Nat.reduceLeDiff, Nat.reduceLT, Nat.reduceMul, List.length_append, decide_eq_true_eq, z9, z6, Int.reduceToNat, Int.reduceLE, Int.reduceLT, Int.reduceBNe, Int.reduceBEq, hi1, hi2, hw3, hN, hN2, hd1, cN_len, cN_one, cN_take, zN_len, zN_one, zN_drop]
             rfl
           · simp only [go_sem, Nat.reduceLT, Nat.reduceEqDiff]
             rfl
           · rfl
           first
           | (apply zd
              · simp only [z5, z0, Nat.reduceLT, decide_true, cond_true, ins]
                rfl
              · simp only [z5, z0, Nat.reduceLT, decide_true, cond_true, ins]
                rfl)
           | (apply zh
              · simp only [z5, z0, Nat.reduceLT, decide_true, cond_true, ins]
                rfl))
        | ((first | apply zb | apply zc)
           · rfl
           · simp only [z5, z0, Nat.reduceLT, decide_true, cond_true, ins]
             rfl)
        | (apply za
           · simp only [go_sem, Nat.reduceEqDiff])
        | (apply z7
           · simp only [go_sem, Nat.reduceEqDiff])
        | (apply zg
           · kernel_rfl
           · kernel_rfl)
        | (simp only [bW, if_true, Nat.reduceEqDiff, if_false])
      refine zu (st1 := ⟨30, [(1, .lref 0 0 3 0), (3, I a), (4, .lref 1 0 50 0), (5, I (j + 1 : Nat))], [(0, ⟨[zt p], 3, false⟩), (1, ⟨[.agg (cN (c))], 50, false⟩)], 2, 0⟩) lk80_6 (by
        simp only [go_sem, List.map_append, Nat.reduceEqDiff, Nat.reduceLT, Nat.reduceAdd, bI, bD, bI2, cN_ids, cN_ren, zN_ids, zN_ren, zt]
        try rfl) (ih (j + 1) (by omega) (fun ha => h fun i h1 h2 => ?_) (fun ⟨i, h1, h2, h3⟩ => h' ⟨i, by omega, h2, h3⟩))
      by_cases hij : i = j
      · rw [hij]; exact hd
      · exact ha i (by omega) h2
    | false =>
      have hd1 : decide ((c j j).n < (c j j).d) = true := by simpa [diagOK] using hd
      rw [h' ⟨j, Nat.le_refl _, hj5, hd⟩]
      refine zk ?_
      try dsimp only [lp80_6, zz, zn, Tryd.f80]
      simp only [bW, if_true, Nat.reduceEqDiff, if_false]
      repeat' first
        | (intro hb; first | cases hb | skip)
        | ((first | apply z8 | apply ze)
           · rfl
           · simp (disch := assumption) only [go_sem, Nat.reduceEqDiff, Nat.reduceAdd, bP, zf, Nat.reduceLeDiff, Nat.reduceLT, Nat.reduceMul, List.length_append, decide_eq_true_eq, z9, z6, Int.reduceToNat, Int.reduceLE, Int.reduceLT, Int.reduceBNe, Int.reduceBEq, hi1, hi2, hw3, hN, hN2, hd1, cN_len, cN_one, cN_take, zN_len, zN_one, zN_drop]
             rfl
           · simp only [go_sem, Nat.reduceLT, Nat.reduceEqDiff]
             rfl
           · rfl
           first
           | (apply zd
              · simp only [z5, z0, Nat.reduceLT, decide_true, cond_true, ins]
                rfl
              · simp only [z5, z0, Nat.reduceLT, decide_true, cond_true, ins]
                rfl)
           | (apply zh
              · simp only [z5, z0, Nat.reduceLT, decide_true, cond_true, ins]
                rfl))
        | ((first | apply zb | apply zc)
           · rfl
           · simp only [z5, z0, Nat.reduceLT, decide_true, cond_true, ins]
             rfl)
        | (apply za
           · simp only [go_sem, Nat.reduceEqDiff])
        | (apply z7
           · simp only [go_sem, Nat.reduceEqDiff])
        | (apply zg
           · kernel_rfl
           · kernel_rfl)
        | (simp only [bW, if_true, Nat.reduceEqDiff, if_false])
      exact hk _ rfl
theorem t80' (p : Paper) (hwf : p.wf) (hok : zq p = true) : (lim cfg).pure 80 [zt p] = some (B (canF p)) := by
  have h840 := t84 p 0 hwf hok
  have h841 := t84 p 1 hwf hok
  have hneg : ∀ c : NetF, (∃ i, 0 ≤ i ∧ i < 5 ∧ diagOK c i = false) → diagAll c = false := by
    rintro c ⟨i, _, h2, h3⟩
    cases h : diagAll c with
    | false => rfl
    | true => rw [diagAll_iff.1 h i h2] at h3; cases h3
  unfold canF
  refine zm (zj 80) cfn80 rfl (n := 30) rfl ?_
  generalize hF : finP cfg Tryd.f80 = F
  simp only [bW, if_true, Nat.reduceEqDiff, if_false, zl]
  have hret : ∀ (v : Bool) st, get st.tmps 2 = B v → F .ret st = some (B v) := by
    intro v st h
    subst hF
    simp only [go_sem, Nat.reduceEqDiff, bP, Nat.reduceAdd, Nat.reduceLeDiff, List.length_map, Tryd.f80, h]
  repeat' first
    | (intro hb; first | cases hb | skip)
    | ((first | apply z8 | apply ze)
       · rfl
       · simp (disch := assumption) only [go_sem, Nat.reduceEqDiff, Nat.reduceAdd, bP, zf, Nat.reduceLeDiff, Nat.reduceLT, Nat.reduceMul, List.length_append, decide_eq_true_eq, z9, z6, Int.reduceToNat, Int.reduceLE, Int.reduceLT, Int.reduceBNe, Int.reduceBEq]
         rfl
       · simp only [go_sem, Nat.reduceLT, Nat.reduceEqDiff]
         rfl
       · rfl
       first
       | (apply zd
          · simp only [z5, z0, Nat.reduceLT, decide_true, cond_true, ins]
            rfl
          · simp only [z5, z0, Nat.reduceLT, decide_true, cond_true, ins]
            rfl)
       | (apply zh
          · simp only [z5, z0, Nat.reduceLT, decide_true, cond_true, ins]
            rfl))
    | ((first | apply zb | apply zc)
       · rfl
       · simp only [z5, z0, Nat.reduceLT, decide_true, cond_true, ins]
         rfl)
    | (apply za
       · simp only [go_sem, Nat.reduceEqDiff])
    | (apply z7
       · simp only [go_sem, Nat.reduceEqDiff])
    | (apply zg
       · kernel_rfl
       · kernel_rfl)
    | (simp only [bW, if_true, Nat.reduceEqDiff, if_false])
  refine w_loop (st1 := ⟨30, [(1, .lref 0 0 3 0), (3, I 0)], [(0, ⟨[zt p], 3, false⟩)], 1, 0⟩) lk80_2 (by kernel_rfl) ?_
  refine zk ?_
  try dsimp only [lp80_2, zz, zn, Tryd.f80]
  simp only [bW, if_true, Nat.reduceEqDiff, if_false]
  repeat' first
    | (intro hb; first | cases hb | skip)
    | ((first | apply z8 | apply ze)
       · rfl
       · simp (disch := assumption) only [go_sem, Nat.reduceEqDiff, Nat.reduceAdd, bP, zf, Nat.reduceLeDiff, Nat.reduceLT, Nat.reduceMul, List.length_append, decide_eq_true_eq, z9, z6, Int.reduceToNat, Int.reduceLE, Int.reduceLT, Int.reduceBNe, Int.reduceBEq, h840, cN_one, cN_len, zN_len, zN_drop, cN_flat]
         rfl
       · simp only [go_sem, Nat.reduceLT, Nat.reduceEqDiff]
         rfl
       · rfl
       first
       | (apply zd
          · simp only [z5, z0, Nat.reduceLT, decide_true, cond_true, ins]
            rfl
          · simp only [z5, z0, Nat.reduceLT, decide_true, cond_true, ins]
            rfl)
       | (apply zh
          · simp only [z5, z0, Nat.reduceLT, decide_true, cond_true, ins]
            rfl))
    | ((first | apply zb | apply zc)
       · rfl
       · simp only [z5, z0, Nat.reduceLT, decide_true, cond_true, ins]
         rfl)
    | (apply za
       · simp only [go_sem, Nat.reduceEqDiff])
    | (apply z7
       · simp only [go_sem, Nat.reduceEqDiff])
    | (apply zg
       · kernel_rfl
       · kernel_rfl)
    | (simp only [bW, if_true, Nat.reduceEqDiff, if_false])
  refine w_loop (st1 := ⟨30, [(1, .lref 0 0 3 0), (3, I 0), (4, .lref 1 0 50 0), (5, I (0 : Nat))], [(0, ⟨[zt p], 3, false⟩), (1, ⟨[.agg (cN (netR p 0))], 50, false⟩)], 2, 0⟩) lk80_6 (by
    simp only [go_sem, List.map_append, Nat.reduceEqDiff, Nat.reduceLT, Nat.reduceAdd, bI, bD, bI2, cN_ids, cN_ren, zN_ids, zN_ren, zt]
    try rfl) (L80_6 p _ 0 _ _ (fun st h => by simp only [bW, if_true, Nat.reduceEqDiff, if_false]; exact hret false st h) 5 0 rfl (fun h0 => ?_) (fun h => by rw [hneg _ h, Bool.false_and]))
  rw [diagAll_iff.2 fun i hi => h0 i (Nat.zero_le _) hi, Bool.true_and]
  simp only [bW, if_true, Nat.reduceEqDiff, if_false]
  repeat' first
    | (intro hb; first | cases hb | skip)
    | ((first | apply z8 | apply ze)
       · rfl
       · simp (disch := assumption) only [go_sem, Nat.reduceEqDiff, Nat.reduceAdd, bP, zf, Nat.reduceLeDiff, Nat.reduceLT, Nat.reduceMul, List.length_append, decide_eq_true_eq, z9, z6, Int.reduceToNat, Int.reduceLE, Int.reduceLT, Int.reduceBNe, Int.reduceBEq, show IntKind.i64.wrap (0 + 1) = 1 from by decide]
         rfl
       · simp only [go_sem, Nat.reduceLT, Nat.reduceEqDiff]
         rfl
       · rfl
       first
       | (apply zd
          · simp only [z5, z0, Nat.reduceLT, decide_true, cond_true, ins]
            rfl
          · simp only [z5, z0, Nat.reduceLT, decide_true, cond_true, ins]
            rfl)
       | (apply zh
          · simp only [z5, z0, Nat.reduceLT, decide_true, cond_true, ins]
            rfl))
    | ((first | apply zb | apply zc)
       · rfl
       · simp only [z5, z0, Nat.reduceLT, decide_true, cond_true, ins]
         rfl)
    | (apply za
       · simp only [go_sem, Nat.reduceEqDiff])
    | (apply z7
       · simp only [go_sem, Nat.reduceEqDiff])
    | (apply zg
       · kernel_rfl
       · kernel_rfl)
    | (simp only [bW, if_true, Nat.reduceEqDiff, if_false])
  refine zu (st1 := ⟨30, [(1, .lref 0 0 3 0), (3, I 1)], [(0, ⟨[zt p], 3, false⟩)], 1, 0⟩) lk80_2 (by
    simp only [go_sem, List.map_append, Nat.reduceEqDiff, Nat.reduceLT, Nat.reduceAdd, bI, bD, bI2, cN_ids, cN_ren, zN_ids, zN_ren, zt]
    try rfl) ?_
  refine zk ?_
  try dsimp only [lp80_2, zz, zn, Tryd.f80]
  simp only [bW, if_true, Nat.reduceEqDiff, if_false]
  repeat' first
    | (intro hb; first | cases hb | skip)
    | ((first | apply z8 | apply ze)
       · rfl
       · simp (disch := assumption) only [go_sem, Nat.reduceEqDiff, Nat.reduceAdd, bP, zf, Nat.reduceLeDiff, Nat.reduceLT, Nat.reduceMul, List.length_append, decide_eq_true_eq, z9, z6, Int.reduceToNat, Int.reduceLE, Int.reduceLT, Int.reduceBNe, Int.reduceBEq, h841, cN_one, cN_len, zN_len, zN_drop, cN_flat]
         rfl
       · simp only [go_sem, Nat.reduceLT, Nat.reduceEqDiff]
         rfl
       · rfl
       first
       | (apply zd
          · simp only [z5, z0, Nat.reduceLT, decide_true, cond_true, ins]
            rfl
          · simp only [z5, z0, Nat.reduceLT, decide_true, cond_true, ins]
            rfl)
       | (apply zh
          · simp only [z5, z0, Nat.reduceLT, decide_true, cond_true, ins]
            rfl))
    | ((first | apply zb | apply zc)
       · rfl
       · simp only [z5, z0, Nat.reduceLT, decide_true, cond_true, ins]
         rfl)
    | (apply za
       · simp only [go_sem, Nat.reduceEqDiff])
    | (apply z7
       · simp only [go_sem, Nat.reduceEqDiff])
    | (apply zg
       · kernel_rfl
       · kernel_rfl)
    | (simp only [bW, if_true, Nat.reduceEqDiff, if_false])
  refine w_loop (st1 := ⟨30, [(1, .lref 0 0 3 0), (3, I 1), (4, .lref 1 0 50 0), (5, I (0 : Nat))], [(0, ⟨[zt p], 3, false⟩), (1, ⟨[.agg (cN (netR p 1))], 50, false⟩)], 2, 0⟩) lk80_6 (by
    simp only [go_sem, List.map_append, Nat.reduceEqDiff, Nat.reduceLT, Nat.reduceAdd, bI, bD, bI2, cN_ids, cN_ren, zN_ids, zN_ren, zt]
    try rfl) (L80_6 p _ 1 _ _ (fun st h => by simp only [bW, if_true, Nat.reduceEqDiff, if_false]; exact hret false st h) 5 0 rfl (fun h1 => ?_) (fun h => by rw [hneg _ h]))
  rw [diagAll_iff.2 fun i hi => h1 i (Nat.zero_le _) hi]
  simp only [bW, if_true, Nat.reduceEqDiff, if_false]
  repeat' first
    | (intro hb; first | cases hb | skip)
    | ((first | apply z8 | apply ze)
       · rfl
       · simp (disch := assumption) only [go_sem, Nat.reduceEqDiff, Nat.reduceAdd, bP, zf, Nat.reduceLeDiff, Nat.reduceLT, Nat.reduceMul, List.length_append, decide_eq_true_eq, z9, z6, Int.reduceToNat, Int.reduceLE, Int.reduceLT, Int.reduceBNe, Int.reduceBEq, show IntKind.i64.wrap (1 + 1) = 2 from by decide]
         rfl
       · simp only [go_sem, Nat.reduceLT, Nat.reduceEqDiff]
         rfl
       · rfl
       first
       | (apply zd
          · simp only [z5, z0, Nat.reduceLT, decide_true, cond_true, ins]
            rfl
          · simp only [z5, z0, Nat.reduceLT, decide_true, cond_true, ins]
            rfl)
       | (apply zh
          · simp only [z5, z0, Nat.reduceLT, decide_true, cond_true, ins]
            rfl))
    | ((first | apply zb | apply zc)
       · rfl
       · simp only [z5, z0, Nat.reduceLT, decide_true, cond_true, ins]
         rfl)
    | (apply za
       · simp only [go_sem, Nat.reduceEqDiff])
    | (apply z7
       · simp only [go_sem, Nat.reduceEqDiff])
    | (apply zg
       · kernel_rfl
       · kernel_rfl)
    | (simp only [bW, if_true, Nat.reduceEqDiff, if_false])
  refine zu (st1 := ⟨30, [(1, .lref 0 0 3 0), (3, I 2)], [(0, ⟨[zt p], 3, false⟩)], 1, 0⟩) lk80_2 (by
    simp only [go_sem, List.map_append, Nat.reduceEqDiff, Nat.reduceLT, Nat.reduceAdd, bI, bD, bI2, cN_ids, cN_ren, zN_ids, zN_ren, zt]
    try rfl) ?_
  refine zk ?_
  try dsimp only [lp80_2, zz, zn, Tryd.f80]
  simp only [bW, if_true, Nat.reduceEqDiff, if_false]
  repeat' first
    | (intro hb; first | cases hb | skip)
    | ((first | apply z8 | apply ze)
       · rfl
       · simp (disch := assumption) only [go_sem, Nat.reduceEqDiff, Nat.reduceAdd, bP, zf, Nat.reduceLeDiff, Nat.reduceLT, Nat.reduceMul, List.length_append, decide_eq_true_eq, z9, z6, Int.reduceToNat, Int.reduceLE, Int.reduceLT, Int.reduceBNe, Int.reduceBEq]
         rfl
       · simp only [go_sem, Nat.reduceLT, Nat.reduceEqDiff]
         rfl
       · rfl
       first
       | (apply zd
          · simp only [z5, z0, Nat.reduceLT, decide_true, cond_true, ins]
            rfl
          · simp only [z5, z0, Nat.reduceLT, decide_true, cond_true, ins]
            rfl)
       | (apply zh
          · simp only [z5, z0, Nat.reduceLT, decide_true, cond_true, ins]
            rfl))
    | ((first | apply zb | apply zc)
       · rfl
       · simp only [z5, z0, Nat.reduceLT, decide_true, cond_true, ins]
         rfl)
    | (apply za
       · simp only [go_sem, Nat.reduceEqDiff])
    | (apply z7
       · simp only [go_sem, Nat.reduceEqDiff])
    | (apply zg
       · kernel_rfl
       · kernel_rfl)
    | (simp only [bW, if_true, Nat.reduceEqDiff, if_false])
  exact hret true _ rfl
theorem t80 (p : Paper) (hwf : p.wf) (hok : zq p = true) : (lim cfg).pure 80 [zt p] = some (B (possibleF p)) := by rw [← can_possible hok]; exact t80' p hwf hok

theorem L82_7 {F : Exit → St → Option D} (p : Paper) (ax : Int) (nl : Bool) (ss : List Int) (k : List Kt) (x : D) (sz : Nat) (hsz : nl = false → sz = 1) (hnl : nl = true → ss = []) (hlen : ss.length ≤ 9223372036854775807) (hsh : IntKind.i64.wrap (p.sheets - 1) = p.sheets - 1) (hk : ∀ st, get st.tmps 6 = I 1 → zC cfg (lim cfg) 82 F k .ret st = some (I 1)) : ∀ (rest : List Int) (i : Nat), ss.drop i = rest → i ≤ ss.length →
    (rest.all (zy p) = true → zC cfg (lim cfg) 82 F k (.exit 0) ⟨35, [(20, B false), (19, I ss.length), (18, .sl nl (ss.map I) sz none), (17, I (ss.length : Nat)), (1, I ax), (2, .sl nl (ss.map I) sz none), (3, .lref 0 0 3 0), (8, I (ss.length : Nat))], [(0, ⟨[zt p], 3, false⟩)], 1, 0⟩ = some x) →
    (rest.all (zy p) = false → x = I 1) →
    EvL cfg (lim cfg) 82 F lp82_7 k ⟨35, [(1, I ax), (2, .sl nl (ss.map I) sz none), (3, .lref 0 0 3 0), (8, I (i : Nat))], [(0, ⟨[zt p], 3, false⟩)], 1, 0⟩ = some x := by
  have hls := len_if (f := I) hnl
  intro rest
  induction rest with
  | nil =>
    intro i hd hi h h'
    have hi' : i = ss.length := by
      have := List.drop_eq_nil_iff.1 hd
      omega
    subst hi'
    refine zk ?_
    try dsimp only [lp82_7, zz, zn, Tryd.f82]
    simp only [bW, if_true, Nat.reduceEqDiff, if_false]
    repeat' first
      | (intro hb; first | cases hb | skip)
      | ((first | apply z8 | apply ze)
         · rfl
         · simp (disch := assumption) only [go_sem, Nat.reduceEqDiff, Nat.reduceAdd, bP, zf, Nat.reduceLeDiff, Nat.reduceLT, Nat.reduceMul, List.length_append, decide_eq_true_eq, z9, z6, Int.reduceToNat, Int.reduceLE, Int.reduceLT, Int.reduceBNe, Int.reduceBEq, hls, Int.lt_irrefl]
           rfl
         · simp only [go_sem, Nat.reduceLT, Nat.reduceEqDiff]
           rfl
         · rfl
         first
         | (apply zd
            · simp only [z5, z0, Nat.reduceLT, decide_true, cond_true, ins]
              rfl
            · simp only [z5, z0, Nat.reduceLT, decide_true, cond_true, ins]
              rfl)
         | (apply zh
            · simp only [z5, z0, Nat.reduceLT, decide_true, cond_true, ins]
              rfl))
      | ((first | apply zb | apply zc)
         · rfl
         · simp only [z5, z0, Nat.reduceLT, decide_true, cond_true, ins]
           rfl)
      | (apply za
         · simp only [go_sem, Nat.reduceEqDiff])
      | (apply z7
         · simp only [go_sem, Nat.reduceEqDiff])
      | (apply zg
         · kernel_rfl
         · kernel_rfl)
      | (simp only [bW, if_true, Nat.reduceEqDiff, if_false])
    exact h rfl
  | cons m rest ih =>
    intro i hd hi h h'
    have hlt : i < ss.length := by
      rcases Nat.lt_or_ge i ss.length with h | h
      · exact h
      · rw [List.drop_eq_nil_of_le h] at hd; cases hd
    have hm : ss[i]? = some m := by rw [← List.head?_drop, hd]; rfl
    have hx : (ss.map I)[i]? = some (I m) := by rw [List.getElem?_map, hm]; rfl
    have hnm : nl = false := by
      cases h : nl with
      | false => rfl
      | true => rw [hnl h] at hlt; cases hlt
    have hsz1 := hsz hnm
    clear hsz
    subst hsz1
    have hlt' : (i : Int) < (ss.length : Int) := by omega
    have hw3 : IntKind.i64.wrap ((i : Int) + 1) = ((i + 1 : Nat) : Int) := by rw [wrap_i64 (by omega) (by omega)]; omega
    have hs77 : (lim cfg).pure 77 [I m, I 0, I (p.sheets - 1)] = some (B (zy p m)) := by
      rw [t77]; unfold zy; rw [show decide (m ≤ p.sheets - 1) = decide (m < p.sheets) by rw [decide_eq_decide]; omega]
    have hlm' : ((ss.map I).length : Int) = (ss.length : Int) := by simp
    cases hs : zy p m with
    | true =>
      rw [hs] at hs77
      simp only [List.all_cons, hs, Bool.true_and] at h h'
      refine zk ?_
      try dsimp only [lp82_7, zz, zn, Tryd.f82]
      simp only [bW, if_true, Nat.reduceEqDiff, if_false]
      repeat' first
        | (intro hb; first | cases hb | skip)
        | ((first | apply z8 | apply ze)
           · rfl
           · simp (disch := assumption) only [go_sem, Nat.reduceEqDiff, Nat.reduceAdd, bP, zf, Nat.reduceLeDiff, Nat.reduceLT, Nat.reduceMul, List.length_append, decide_eq_true_eq, z9, z6, Int.reduceToNat, Int.reduceLE, Int.reduceLT, Int.reduceBNe, Int.reduceBEq, hlm', hx, hnm, hlt', hw3, hsh, hs77]
             rfl
           · simp only [go_sem, Nat.reduceLT, Nat.reduceEqDiff]
             rfl
           · rfl
           first
           | (apply zd
              · simp only [z5, z0, Nat.reduceLT, decide_true, cond_true, ins]
                rfl
              · simp only [z5, z0, Nat.reduceLT, decide_true, cond_true, ins]
                rfl)
           | (apply zh
              · simp only [z5, z0, Nat.reduceLT, decide_true, cond_true, ins]
                rfl))
        | ((first | apply zb | apply zc)
           · rfl
           · simp only [z5, z0, Nat.reduceLT, decide_true, cond_true, ins]
             rfl)
        | (apply za
           · simp only [go_sem, Nat.reduceEqDiff])
        | (apply z7
           · simp only [go_sem, Nat.reduceEqDiff])
        | (apply zg
           · kernel_rfl
           · kernel_rfl)
        | (simp only [bW, if_true, Nat.reduceEqDiff, if_false])
      exact zu (st1 := ⟨35, [(1, I ax), (2, .sl nl (ss.map I) 1 none), (3, .lref 0 0 3 0), (8, I (i + 1 : Nat))], [(0, ⟨[zt p], 3, false⟩)], 1, 0⟩) lk82_7 (by kernel_rfl) (ih (i + 1) (by rw [← List.drop_drop, hd]; rfl) hlt h h')
    | false =>
      rw [hs] at hs77
      rw [h' (by simp [hs])]
      refine zk ?_
      try dsimp only [lp82_7, zz, zn, Tryd.f82]
      simp only [bW, if_true, Nat.reduceEqDiff, if_false]
      repeat' first
        | (intro hb; first | cases hb | skip)
        | ((first | apply z8 | apply ze)
           · rfl
           · simp (disch := assumption) only [go_sem, Nat.reduceEqDiff, Nat.reduceAdd, bP, zf, Nat.reduceLeDiff, Nat.reduceLT, Nat.reduceMul, List.length_append, decide_eq_true_eq, z9, z6, Int.reduceToNat, Int.reduceLE, Int.reduceLT, Int.reduceBNe, Int.reduceBEq, hlm', hx, hnm, hlt', hw3, hsh, hs77]
             rfl
           · simp only [go_sem, Nat.reduceLT, Nat.reduceEqDiff]
             rfl
           · rfl
           first
           | (apply zd
              · simp only [z5, z0, Nat.reduceLT, decide_true, cond_true, ins]
                rfl
              · simp only [z5, z0, Nat.reduceLT, decide_true, cond_true, ins]
                rfl)
           | (apply zh
              · simp only [z5, z0, Nat.reduceLT, decide_true, cond_true, ins]
                rfl))
        | ((first | apply zb | apply zc)
           · rfl
           · simp only [z5, z0, Nat.reduceLT, decide_true, cond_true, ins]
             rfl)
        | (apply za
           · simp only [go_sem, Nat.reduceEqDiff])
        | (apply z7
           · simp only [go_sem, Nat.reduceEqDiff])
        | (apply zg
           · kernel_rfl
           · kernel_rfl)
        | (simp only [bW, if_true, Nat.reduceEqDiff, if_false])
      exact hk _ rfl
theorem t82 (p : Paper) (ax : Int) (nl : Bool) (ss : List Int) (hwf : p.wf) (sz : Nat) (hsz : nl = false → sz = 1) (hnl : nl = true → ss = []) (hlen : ss.length ≤ 9223372036854775807) : (lim cfg).pure 82 [zt p, I ax, .sl nl (ss.map I) sz none] = some (I (zA p ax ss)) := by
  have h28 := t28 p hwf
  unfold zA
  unfold check at h28
  have h77 : (lim cfg).pure 77 [I ax, I 0, I 1] = some (B (isAxis ax)) := by
    rw [t77]; unfold isAxis; congr 3; rw [Bool.eq_iff_iff]; simp; omega
  cases hok : zq p with
  | false =>
    rw [hok] at h28
    simp only [Bool.false_eq_true, if_false] at h28 ⊢
    refine zm (zj 82) cfn82 rfl (n := 35) rfl ?_
    simp only [bW, if_true, Nat.reduceEqDiff, if_false, zl]
    repeat' first
      | (intro hb; first | cases hb | skip)
      | ((first | apply z8 | apply ze)
         · rfl
         · simp (disch := assumption) only [go_sem, Nat.reduceEqDiff, Nat.reduceAdd, bP, zf, Nat.reduceLeDiff, Nat.reduceLT, Nat.reduceMul, List.length_append, decide_eq_true_eq, z9, z6, Int.reduceToNat, Int.reduceLE, Int.reduceLT, Int.reduceBNe, Int.reduceBEq, h28]
           rfl
         · simp only [go_sem, Nat.reduceLT, Nat.reduceEqDiff]
           rfl
         · rfl
         first
         | (apply zd
            · simp only [z5, z0, Nat.reduceLT, decide_true, cond_true, ins]
              rfl
            · simp only [z5, z0, Nat.reduceLT, decide_true, cond_true, ins]
              rfl)
         | (apply zh
            · simp only [z5, z0, Nat.reduceLT, decide_true, cond_true, ins]
              rfl))
      | ((first | apply zb | apply zc)
         · rfl
         · simp only [z5, z0, Nat.reduceLT, decide_true, cond_true, ins]
           rfl)
      | (apply za
         · simp only [go_sem, Nat.reduceEqDiff])
      | (apply z7
         · simp only [go_sem, Nat.reduceEqDiff])
      | (apply zg
         · kernel_rfl
         · kernel_rfl)
      | (simp only [bW, if_true, Nat.reduceEqDiff, if_false])
    all_goals try simp only [go_sem, Nat.reduceEqDiff, bP, Nat.reduceAdd, Nat.reduceLeDiff, List.length_map, Tryd.f82]
    all_goals first | done | rfl | (simp_all []; done) | trace_state
  | true =>
    rw [hok] at h28
    simp only [if_true] at h28 ⊢
    obtain ⟨o1, o2, -⟩ := zF hok
    have hsh : IntKind.i64.wrap (p.sheets - 1) = p.sheets - 1 := wrap_i64 (by omega) (by omega)
    have h80 := t80 p hwf hok
    cases hp : possibleF p with
    | false =>
      rw [hp] at h80
      simp only [Bool.false_eq_true, if_false]
      refine zm (zj 82) cfn82 rfl (n := 35) rfl ?_
      simp only [bW, if_true, Nat.reduceEqDiff, if_false, zl]
      repeat' first
        | (intro hb; first | cases hb | skip)
        | ((first | apply z8 | apply ze)
           · rfl
           · simp (disch := assumption) only [go_sem, Nat.reduceEqDiff, Nat.reduceAdd, bP, zf, Nat.reduceLeDiff, Nat.reduceLT, Nat.reduceMul, List.length_append, decide_eq_true_eq, z9, z6, Int.reduceToNat, Int.reduceLE, Int.reduceLT, Int.reduceBNe, Int.reduceBEq, h28, h80]
             rfl
           · simp only [go_sem, Nat.reduceLT, Nat.reduceEqDiff]
             rfl
           · rfl
           first
           | (apply zd
              · simp only [z5, z0, Nat.reduceLT, decide_true, cond_true, ins]
                rfl
              · simp only [z5, z0, Nat.reduceLT, decide_true, cond_true, ins]
                rfl)
           | (apply zh
              · simp only [z5, z0, Nat.reduceLT, decide_true, cond_true, ins]
                rfl))
        | ((first | apply zb | apply zc)
           · rfl
           · simp only [z5, z0, Nat.reduceLT, decide_true, cond_true, ins]
             rfl)
        | (apply za
           · simp only [go_sem, Nat.reduceEqDiff])
        | (apply z7
           · simp only [go_sem, Nat.reduceEqDiff])
        | (apply zg
           · kernel_rfl
           · kernel_rfl)
        | (simp only [bW, if_true, Nat.reduceEqDiff, if_false])
      all_goals try simp only [go_sem, Nat.reduceEqDiff, bP, Nat.reduceAdd, Nat.reduceLeDiff, List.length_map, Tryd.f82]
      all_goals first | done | rfl | (simp_all []; done) | trace_state
    | true =>
      rw [hp] at h80
      simp only [if_true]
      refine zm (zj 82) cfn82 rfl (n := 35) rfl ?_
      generalize hF : finP cfg Tryd.f82 = F
      simp only [bW, if_true, Nat.reduceEqDiff, if_false, zl]
      have hend : ∀ (v : Int) st, get st.tmps 6 = I v → F .ret st = some (I v) := by
        intro v st hd
        subst hF
        simp only [go_sem, Nat.reduceEqDiff, bP, Nat.reduceAdd, Nat.reduceLeDiff, List.length_map, Tryd.f82, hd]
      repeat' first
        | (intro hb; first | cases hb | skip)
        | ((first | apply z8 | apply ze)
           · rfl
           · simp (disch := assumption) only [go_sem, Nat.reduceEqDiff, Nat.reduceAdd, bP, zf, Nat.reduceLeDiff, Nat.reduceLT, Nat.reduceMul, List.length_append, decide_eq_true_eq, z9, z6, Int.reduceToNat, Int.reduceLE, Int.reduceLT, Int.reduceBNe, Int.reduceBEq, h28, h80]
             rfl
           · simp only [go_sem, Nat.reduceLT, Nat.reduceEqDiff]
             rfl
           · rfl
           first
           | (apply zd
              · simp only [z5, z0, Nat.reduceLT, decide_true, cond_true, ins]
                rfl
              · simp only [z5, z0, Nat.reduceLT, decide_true, cond_true, ins]
                rfl)
           | (apply zh
              · simp only [z5, z0, Nat.reduceLT, decide_true, cond_true, ins]
                rfl))
        | ((first | apply zb | apply zc)
           · rfl
           · simp only [z5, z0, Nat.reduceLT, decide_true, cond_true, ins]
             rfl)
        | (apply za
           · simp only [go_sem, Nat.reduceEqDiff])
        | (apply z7
           · simp only [go_sem, Nat.reduceEqDiff])
        | (apply zg
           · kernel_rfl
           · kernel_rfl)
        | (simp only [bW, if_true, Nat.reduceEqDiff, if_false])
      refine w_loop (st1 := ⟨35, [(1, I ax), (2, .sl nl (ss.map I) sz none), (3, .lref 0 0 3 0), (8, I (0 : Nat))], [(0, ⟨[zt p], 3, false⟩)], 1, 0⟩) lk82_7 (by kernel_rfl) (L82_7 p ax nl ss _ _ sz hsz hnl hlen hsh (fun st hd => ?_) ss 0 rfl (Nat.zero_le _) (fun ha => ?_) (fun ha => ?_))
      · simp only [bW, if_true, Nat.reduceEqDiff, if_false]
        exact hend 1 st hd
      · cases hax : isAxis ax with
        | true =>
          rw [hax] at h77
          rw [show namedF p ax ss = 0 by simp [namedF, ha, hax]]
          simp only [bW, if_true, Nat.reduceEqDiff, if_false]
          repeat' first
            | (intro hb; first | cases hb | skip)
            | ((first | apply z8 | apply ze)
               · rfl
               · simp (disch := assumption) only [go_sem, Nat.reduceEqDiff, Nat.reduceAdd, bP, zf, Nat.reduceLeDiff, Nat.reduceLT, Nat.reduceMul, List.length_append, decide_eq_true_eq, z9, z6, Int.reduceToNat, Int.reduceLE, Int.reduceLT, Int.reduceBNe, Int.reduceBEq, h77]
                 rfl
               · simp only [go_sem, Nat.reduceLT, Nat.reduceEqDiff]
                 rfl
               · rfl
               first
               | (apply zd
                  · simp only [z5, z0, Nat.reduceLT, decide_true, cond_true, ins]
                    rfl
                  · simp only [z5, z0, Nat.reduceLT, decide_true, cond_true, ins]
                    rfl)
               | (apply zh
                  · simp only [z5, z0, Nat.reduceLT, decide_true, cond_true, ins]
                    rfl))
            | ((first | apply zb | apply zc)
               · rfl
               · simp only [z5, z0, Nat.reduceLT, decide_true, cond_true, ins]
                 rfl)
            | (apply za
               · simp only [go_sem, Nat.reduceEqDiff])
            | (apply z7
               · simp only [go_sem, Nat.reduceEqDiff])
            | (apply zg
               · kernel_rfl
               · kernel_rfl)
            | (simp only [bW, if_true, Nat.reduceEqDiff, if_false])
          exact hend 0 _ rfl
        | false =>
          rw [hax] at h77
          rw [show namedF p ax ss = 1 by simp [namedF, ha, hax]]
          simp only [bW, if_true, Nat.reduceEqDiff, if_false]
          repeat' first
            | (intro hb; first | cases hb | skip)
            | ((first | apply z8 | apply ze)
               · rfl
               · simp (disch := assumption) only [go_sem, Nat.reduceEqDiff, Nat.reduceAdd, bP, zf, Nat.reduceLeDiff, Nat.reduceLT, Nat.reduceMul, List.length_append, decide_eq_true_eq, z9, z6, Int.reduceToNat, Int.reduceLE, Int.reduceLT, Int.reduceBNe, Int.reduceBEq, h77]
                 rfl
               · simp only [go_sem, Nat.reduceLT, Nat.reduceEqDiff]
                 rfl
               · rfl
               first
               | (apply zd
                  · simp only [z5, z0, Nat.reduceLT, decide_true, cond_true, ins]
                    rfl
                  · simp only [z5, z0, Nat.reduceLT, decide_true, cond_true, ins]
                    rfl)
               | (apply zh
                  · simp only [z5, z0, Nat.reduceLT, decide_true, cond_true, ins]
                    rfl))
            | ((first | apply zb | apply zc)
               · rfl
               · simp only [z5, z0, Nat.reduceLT, decide_true, cond_true, ins]
                 rfl)
            | (apply za
               · simp only [go_sem, Nat.reduceEqDiff])
            | (apply z7
               · simp only [go_sem, Nat.reduceEqDiff])
            | (apply zg
               · kernel_rfl
               · kernel_rfl)
            | (simp only [bW, if_true, Nat.reduceEqDiff, if_false])
          exact hend 1 _ rfl
      · rw [show namedF p ax ss = 1 by simp [namedF, ha]]

end Go.VS
namespace Go.VS
open Go Go.Proofs
set_option maxHeartbeats 0
set_option linter.unusedSimpArgs false

noncomputable def lp34_6 : Code := zz [1, 1, 1, 0, 1, 0, 0] (zn Tryd.f34)
theorem lk34_6 : cfg.keep 34 (zr lp34_6) = [1, 6, 7, 8] := by kernel_rfl

noncomputable def lp35_4 : Code := zz [1, 1, 0, 1, 0, 0] (zn Tryd.f35)
theorem lk35_4 : cfg.keep 35 (zr lp35_4) = [0, 1, 5] := by kernel_rfl

theorem t31 (p : Paper) (hwf : p.wf) : (lim cfg).pure 31 [zt p] = some (if zq p then .tup [B (possibleF p), I 0] else .tup [B false, I 30]) := by
  have h28 := t28 p hwf
  unfold check at h28
  cases hok : zq p with
  | false =>
    rw [hok] at h28
    simp only [Bool.false_eq_true, if_false] at h28 ⊢
    refine zm (zj 31) cfn31 rfl (n := 12) rfl ?_
    simp only [bW, if_true, Nat.reduceEqDiff, if_false, zl]
    repeat' first
      | (intro hb; first | cases hb | skip)
      | ((first | apply z8 | apply ze)
         · rfl
         · simp (disch := assumption) only [go_sem, Nat.reduceEqDiff, Nat.reduceAdd, bP, zf, Nat.reduceLeDiff, Nat.reduceLT, Nat.reduceMul, List.length_append, decide_eq_true_eq, z9, z6, Int.reduceToNat, Int.reduceLE, Int.reduceLT, Int.reduceBNe, Int.reduceBEq, h28]
           rfl
         · simp only [go_sem, Nat.reduceLT, Nat.reduceEqDiff]
           rfl
         · rfl
         first
         | (apply zd
            · simp only [z5, z0, Nat.reduceLT, decide_true, cond_true, ins]
              rfl
            · simp only [z5, z0, Nat.reduceLT, decide_true, cond_true, ins]
              rfl)
         | (apply zh
            · simp only [z5, z0, Nat.reduceLT, decide_true, cond_true, ins]
              rfl))
      | ((first | apply zb | apply zc)
         · rfl
         · simp only [z5, z0, Nat.reduceLT, decide_true, cond_true, ins]
           rfl)
      | (apply za
         · simp only [go_sem, Nat.reduceEqDiff])
      | (apply z7
         · simp only [go_sem, Nat.reduceEqDiff])
      | (apply zg
         · kernel_rfl
         · kernel_rfl)
      | (simp only [bW, if_true, Nat.reduceEqDiff, if_false])
    all_goals try simp only [go_sem, Nat.reduceEqDiff, bP, Nat.reduceAdd, Nat.reduceLeDiff, List.length_map, Tryd.f31]
    all_goals first | done | rfl | (simp_all []; done) | trace_state
  | true =>
    rw [hok] at h28
    simp only [if_true] at h28 ⊢
    have h80 := t80 p hwf hok
    refine zm (zj 31) cfn31 rfl (n := 12) rfl ?_
    simp only [bW, if_true, Nat.reduceEqDiff, if_false, zl]
    repeat' first
      | (intro hb; first | cases hb | skip)
      | ((first | apply z8 | apply ze)
         · rfl
         · simp (disch := assumption) only [go_sem, Nat.reduceEqDiff, Nat.reduceAdd, bP, zf, Nat.reduceLeDiff, Nat.reduceLT, Nat.reduceMul, List.length_append, decide_eq_true_eq, z9, z6, Int.reduceToNat, Int.reduceLE, Int.reduceLT, Int.reduceBNe, Int.reduceBEq, h28, h80]
           rfl
         · simp only [go_sem, Nat.reduceLT, Nat.reduceEqDiff]
           rfl
         · rfl
         first
         | (apply zd
            · simp only [z5, z0, Nat.reduceLT, decide_true, cond_true, ins]
              rfl
            · simp only [z5, z0, Nat.reduceLT, decide_true, cond_true, ins]
              rfl)
         | (apply zh
            · simp only [z5, z0, Nat.reduceLT, decide_true, cond_true, ins]
              rfl))
      | ((first | apply zb | apply zc)
         · rfl
         · simp only [z5, z0, Nat.reduceLT, decide_true, cond_true, ins]
           rfl)
      | (apply za
         · simp only [go_sem, Nat.reduceEqDiff])
      | (apply z7
         · simp only [go_sem, Nat.reduceEqDiff])
      | (apply zg
         · kernel_rfl
         · kernel_rfl)
      | (simp only [bW, if_true, Nat.reduceEqDiff, if_false])
    all_goals try simp only [go_sem, Nat.reduceEqDiff, bP, Nat.reduceAdd, Nat.reduceLeDiff, List.length_map, Tryd.f31]
    all_goals first | done | rfl | (simp_all []; done) | trace_state

theorem t83 (p : Paper) (s ax : Int) (hwf : p.wf) (hok : zq p = true) (hc : clashA p ax = none) (hs : zy p s = true) : (lim cfg).pure 83 [zt p, I s, I ax] = some (.tup [.agg [I (loF p s ax).n, I (loF p s ax).d], .agg [I (hiF p s ax).n, I (hiF p s ax).d]]) := by
  obtain ⟨u, hu, u1, u2⟩ := sheet_pos hok
  obtain ⟨i, rfl, hi, _⟩ := sheet_nat hs
  have hiu : i < u := by omega
  rw [net_lo hok hc hu hiu, net_hi hok hc hu hiu]
  have h84 := t84 p ax hwf hok
  generalize netR p ax = c at *
  have hi5 : i < 5 := by omega
  have hu5 : u < 5 := by omega
  obtain ⟨-, -, g1⟩ := cN_get (c := c) hu5 hi5
  obtain ⟨-, -, g2⟩ := cN_get (c := c) hi5 hu5
  have k1 : (u * 10 + i * 2 + 2 ≤ 50) = True := by simp; omega
  have k2 : (i * 10 + u * 2 + 2 ≤ 50) = True := by simp; omega
  have hi5' : (i < 5) = True := by simp [hi5]
  have hu5' : (u < 5) = True := by simp [hu5]
  simp only [zt, hu] at h84
  refine zm (zj 83) cfn83 rfl (n := 25) rfl ?_
  simp only [bW, if_true, Nat.reduceEqDiff, if_false, zl]
  repeat' first
    | (intro hb; first | cases hb | skip)
    | ((first | apply z8 | apply ze)
       · rfl
       · simp (disch := assumption) only [go_sem, Nat.reduceEqDiff, Nat.reduceAdd, bP, zf, Nat.reduceLeDiff, Nat.reduceLT, Nat.reduceMul, List.length_append, decide_eq_true_eq, z9, z6, Int.reduceToNat, Int.reduceLE, Int.reduceLT, Int.reduceBNe, Int.reduceBEq, h84, hu, t98, g1, g2, k1, k2, hi5', hu5', zN_drop, cN_len, cN_one, cN_take, zN_len, zN_one]
         rfl
       · simp only [go_sem, Nat.reduceLT, Nat.reduceEqDiff]
         rfl
       · rfl
       first
       | (apply zd
          · simp only [z5, z0, Nat.reduceLT, decide_true, cond_true, ins]
            rfl
          · simp only [z5, z0, Nat.reduceLT, decide_true, cond_true, ins]
            rfl)
       | (apply zh
          · simp only [z5, z0, Nat.reduceLT, decide_true, cond_true, ins]
            rfl))
    | ((first | apply zb | apply zc)
       · rfl
       · simp only [z5, z0, Nat.reduceLT, decide_true, cond_true, ins]
         rfl)
    | (apply za
       · simp only [go_sem, Nat.reduceEqDiff])
    | (apply z7
       · simp only [go_sem, Nat.reduceEqDiff])
    | (apply zg
       · kernel_rfl
       · kernel_rfl)
    | (simp only [bW, if_true, Nat.reduceEqDiff, if_false])
  all_goals try simp only [go_sem, Nat.reduceEqDiff, bP, Nat.reduceAdd, Nat.reduceLeDiff, List.length_map, Tryd.f83]
  all_goals first | done | rfl | (simp_all []; done) | trace_state

theorem t36 (p : Paper) (s ax : Int) (hwf : p.wf) : (lim cfg).pure 36 [zt p, I s, I ax] = some (if zA p ax [s] = 0 then .tup [.agg [I (loF p s ax).n, I (loF p s ax).d], .agg [I (hiF p s ax).n, I (hiF p s ax).d], I 0] else .tup [.agg [I 0, I 0], .agg [I 0, I 0], I (zA p ax [s])]) := by
  have h82 := t82 p ax false [s] hwf 1 (by simp) (by simp) (by simp)
  simp only [List.map_cons, List.map_nil] at h82
  by_cases hk : zA p ax [s] = 0
  · rw [if_pos hk]
    rw [hk] at h82
    obtain ⟨hok, hp, hs, hax⟩ := known_zero.1 hk
    simp at hs
    have h83 := t83 p s ax hwf hok (poss_none hp hax) hs
    refine zm (zj 36) cfn36 rfl (n := 31) rfl ?_
    simp only [bW, if_true, Nat.reduceEqDiff, if_false, zl]
    repeat' first
      | (intro hb; first | cases hb | skip)
      | ((first | apply z8 | apply ze)
         · rfl
         · simp (disch := assumption) only [go_sem, Nat.reduceEqDiff, Nat.reduceAdd, bP, zf, Nat.reduceLeDiff, Nat.reduceLT, Nat.reduceMul, List.length_append, decide_eq_true_eq, z9, z6, Int.reduceToNat, Int.reduceLE, Int.reduceLT, Int.reduceBNe, Int.reduceBEq, h82, h83]
           rfl
         · simp only [go_sem, Nat.reduceLT, Nat.reduceEqDiff]
           rfl
         · rfl
         first
         | (apply zd
            · simp only [z5, z0, Nat.reduceLT, decide_true, cond_true, ins]
              rfl
            · simp only [z5, z0, Nat.reduceLT, decide_true, cond_true, ins]
              rfl)
         | (apply zh
            · simp only [z5, z0, Nat.reduceLT, decide_true, cond_true, ins]
              rfl))
      | ((first | apply zb | apply zc)
         · rfl
         · simp only [z5, z0, Nat.reduceLT, decide_true, cond_true, ins]
           rfl)
      | (apply za
         · simp only [go_sem, Nat.reduceEqDiff])
      | (apply z7
         · simp only [go_sem, Nat.reduceEqDiff])
      | (apply zg
         · kernel_rfl
         · kernel_rfl)
      | (simp only [bW, if_true, Nat.reduceEqDiff, if_false])
    all_goals try simp only [go_sem, Nat.reduceEqDiff, bP, Nat.reduceAdd, Nat.reduceLeDiff, List.length_map, Tryd.f36]
    all_goals first | done | rfl | (simp_all []; done) | trace_state
  · rw [if_neg hk]
    have hne : (zA p ax [s] != 0) = true := by simp [hk]
    refine zm (zj 36) cfn36 rfl (n := 31) rfl ?_
    simp only [bW, if_true, Nat.reduceEqDiff, if_false, zl]
    repeat' first
      | (intro hb; first | cases hb | skip)
      | ((first | apply z8 | apply ze)
         · rfl
         · simp (disch := assumption) only [go_sem, Nat.reduceEqDiff, Nat.reduceAdd, bP, zf, Nat.reduceLeDiff, Nat.reduceLT, Nat.reduceMul, List.length_append, decide_eq_true_eq, z9, z6, Int.reduceToNat, Int.reduceLE, Int.reduceLT, Int.reduceBNe, Int.reduceBEq, h82, hne]
           rfl
         · simp only [go_sem, Nat.reduceLT, Nat.reduceEqDiff]
           rfl
         · rfl
         first
         | (apply zd
            · simp only [z5, z0, Nat.reduceLT, decide_true, cond_true, ins]
              rfl
            · simp only [z5, z0, Nat.reduceLT, decide_true, cond_true, ins]
              rfl)
         | (apply zh
            · simp only [z5, z0, Nat.reduceLT, decide_true, cond_true, ins]
              rfl))
      | ((first | apply zb | apply zc)
         · rfl
         · simp only [z5, z0, Nat.reduceLT, decide_true, cond_true, ins]
           rfl)
      | (apply za
         · simp only [go_sem, Nat.reduceEqDiff])
      | (apply z7
         · simp only [go_sem, Nat.reduceEqDiff])
      | (apply zg
         · kernel_rfl
         · kernel_rfl)
      | (simp only [bW, if_true, Nat.reduceEqDiff, if_false])
    all_goals try simp only [go_sem, Nat.reduceEqDiff, bP, Nat.reduceAdd, Nat.reduceLeDiff, List.length_map, Tryd.f36]
    all_goals first | done | rfl | (simp_all []; done) | trace_state

theorem t37 (p : Paper) (a b ax : Int) (hwf : p.wf) : (lim cfg).pure 37 [zt p, I a, I b, I ax] = some (if zA p ax [a, b] = 0 then .tup [.agg [I (betwF p a b ax).n, I (betwF p a b ax).d], I 0] else .tup [.agg [I 0, I 0], I (zA p ax [a, b])]) := by
  have h82 := t82 p ax false [a, b] hwf 1 (by simp) (by simp) (by simp)
  simp only [List.map_cons, List.map_nil] at h82
  by_cases hk : zA p ax [a, b] = 0
  · rw [if_pos hk]
    rw [hk] at h82
    obtain ⟨hok, hp, hs, hax⟩ := known_zero.1 hk
    simp only [List.all_cons, List.all_nil, Bool.and_true, Bool.and_eq_true] at hs
    have h84 := t84 p ax hwf hok
    obtain ⟨u, hu, u1, u2⟩ := sheet_pos hok
    obtain ⟨i, rfl, hi, _⟩ := sheet_nat hs.1
    obtain ⟨j, rfl, hj, _⟩ := sheet_nat hs.2
    rw [net_betw hok (poss_none hp hax) hu (show i < u by omega) (show j < u by omega)]
    generalize netR p ax = c at *
    have hi5 : i < 5 := by omega
    have hj5 : j < 5 := by omega
    obtain ⟨-, -, g1⟩ := cN_get (c := c) hi5 hj5
    have k1 : (i * 10 + 10 ≤ 50) = True := by simp; omega
    have k2 : (j * 2 + 2 ≤ 10) = True := by simp; omega
    have hi5' : (i < 5) = True := by simp [hi5]
    have hj5' : (j < 5) = True := by simp [hj5]
    have g3 : (List.take 10 (List.drop (i * 10) (cN c))).length = 10 := by simp [cN_len]; omega
    have g2 : List.take 2 (List.drop (j * 2) (List.take 10 (List.drop (i * 10) (cN c)))) = [I (c i j).n, I (c i j).d] := by
      rw [List.drop_take, List.take_take, List.drop_drop, show min 2 (10 - j * 2) = 2 by omega]; exact g1
    refine zm (zj 37) cfn37 rfl (n := 28) rfl ?_
    simp only [bW, if_true, Nat.reduceEqDiff, if_false, zl]
    repeat' first
      | (intro hb; first | cases hb | skip)
      | ((first | apply z8 | apply ze)
         · rfl
         · simp (disch := assumption) only [go_sem, Nat.reduceEqDiff, Nat.reduceAdd, bP, zf, Nat.reduceLeDiff, Nat.reduceLT, Nat.reduceMul, List.length_append, decide_eq_true_eq, z9, z6, Int.reduceToNat, Int.reduceLE, Int.reduceLT, Int.reduceBNe, Int.reduceBEq, h82, h84, g2, g3, k1, k2, hi5', hj5', cN_len, cN_one, cN_take, zN_len, zN_one, zN_drop]
           rfl
         · simp only [go_sem, Nat.reduceLT, Nat.reduceEqDiff]
           rfl
         · rfl
         first
         | (apply zd
            · simp only [z5, z0, Nat.reduceLT, decide_true, cond_true, ins]
              rfl
            · simp only [z5, z0, Nat.reduceLT, decide_true, cond_true, ins]
              rfl)
         | (apply zh
            · simp only [z5, z0, Nat.reduceLT, decide_true, cond_true, ins]
              rfl))
      | ((first | apply zb | apply zc)
         · rfl
         · simp only [z5, z0, Nat.reduceLT, decide_true, cond_true, ins]
           rfl)
      | (apply za
         · simp only [go_sem, Nat.reduceEqDiff])
      | (apply z7
         · simp only [go_sem, Nat.reduceEqDiff])
      | (apply zg
         · kernel_rfl
         · kernel_rfl)
      | (simp only [bW, if_true, Nat.reduceEqDiff, if_false])
    all_goals try simp only [go_sem, Nat.reduceEqDiff, bP, Nat.reduceAdd, Nat.reduceLeDiff, List.length_map, Tryd.f37]
    all_goals first | done | rfl | (simp_all []; done) | trace_state
  · rw [if_neg hk]
    have hne : (zA p ax [a, b] != 0) = true := by simp [hk]
    refine zm (zj 37) cfn37 rfl (n := 28) rfl ?_
    simp only [bW, if_true, Nat.reduceEqDiff, if_false, zl]
    repeat' first
      | (intro hb; first | cases hb | skip)
      | ((first | apply z8 | apply ze)
         · rfl
         · simp (disch := assumption) only [go_sem, Nat.reduceEqDiff, Nat.reduceAdd, bP, zf, Nat.reduceLeDiff, Nat.reduceLT, Nat.reduceMul, List.length_append, decide_eq_true_eq, z9, z6, Int.reduceToNat, Int.reduceLE, Int.reduceLT, Int.reduceBNe, Int.reduceBEq, h82, hne]
           rfl
         · simp only [go_sem, Nat.reduceLT, Nat.reduceEqDiff]
           rfl
         · rfl
         first
         | (apply zd
            · simp only [z5, z0, Nat.reduceLT, decide_true, cond_true, ins]
              rfl
            · simp only [z5, z0, Nat.reduceLT, decide_true, cond_true, ins]
              rfl)
         | (apply zh
            · simp only [z5, z0, Nat.reduceLT, decide_true, cond_true, ins]
              rfl))
      | ((first | apply zb | apply zc)
         · rfl
         · simp only [z5, z0, Nat.reduceLT, decide_true, cond_true, ins]
           rfl)
      | (apply za
         · simp only [go_sem, Nat.reduceEqDiff])
      | (apply z7
         · simp only [go_sem, Nat.reduceEqDiff])
      | (apply zg
         · kernel_rfl
         · kernel_rfl)
      | (simp only [bW, if_true, Nat.reduceEqDiff, if_false])
    all_goals try simp only [go_sem, Nat.reduceEqDiff, bP, Nat.reduceAdd, Nat.reduceLeDiff, List.length_map, Tryd.f37]
    all_goals first | done | rfl | (simp_all []; done) | trace_state

theorem L35_4 {F : Exit → St → Option D} (l : List F4) (k : List Kt) (x : D) (hl : l.length ≤ 1000) (h : zC cfg (lim cfg) 35 F k (.exit 0) ⟨26, [(14, B false), (13, I l.length), (12, .sl false (l.map zM) 4 none), (11, I (l.length : Nat)), (0, .sl false (l.map zM) 4 none), (1, .sl false (l.map zM) 4 none), (5, I (l.length : Nat))], [], 0, 0⟩ = some x) : ∀ (rest : List F4) (i : Nat), l.drop i = rest → i ≤ l.length → EvL cfg (lim cfg) 35 F lp35_4 k ⟨26, [(0, .sl false (l.map zM) 4 none), (1, .sl false (l.map zM) 4 none), (5, I (i : Nat))], [], 0, 0⟩ = some x := by
  intro rest
  induction rest with
  | nil =>
    intro i hd hi
    have hi' : i = l.length := by
      have := List.drop_eq_nil_iff.1 hd
      omega
    subst hi'
    refine zk ?_
    try dsimp only [lp35_4, zz, zn, Tryd.f35]
    simp only [bW, if_true, Nat.reduceEqDiff, if_false]
    repeat' first
      | (intro hb; first | cases hb | skip)
      | ((first | apply z8 | apply ze)
         · rfl
         · simp (disch := assumption) only [go_sem, Nat.reduceEqDiff, Nat.reduceAdd, bP, zf, Nat.reduceLeDiff, Nat.reduceLT, Nat.reduceMul, List.length_append, decide_eq_true_eq, z9, z6, Int.reduceToNat, Int.reduceLE, Int.reduceLT, Int.reduceBNe, Int.reduceBEq, List.length_map, Int.lt_irrefl]
           rfl
         · simp only [go_sem, Nat.reduceLT, Nat.reduceEqDiff]
           rfl
         · rfl
         first
         | (apply zd
            · simp only [z5, z0, Nat.reduceLT, decide_true, cond_true, ins]
              rfl
            · simp only [z5, z0, Nat.reduceLT, decide_true, cond_true, ins]
              rfl)
         | (apply zh
            · simp only [z5, z0, Nat.reduceLT, decide_true, cond_true, ins]
              rfl))
      | ((first | apply zb | apply zc)
         · rfl
         · simp only [z5, z0, Nat.reduceLT, decide_true, cond_true, ins]
           rfl)
      | (apply za
         · simp only [go_sem, Nat.reduceEqDiff])
      | (apply z7
         · simp only [go_sem, Nat.reduceEqDiff])
      | (apply zg
         · kernel_rfl
         · kernel_rfl)
      | (simp only [bW, if_true, Nat.reduceEqDiff, if_false])
    exact h
  | cons m rest ih =>
    intro i hd hi
    have hlt : i < l.length := by
      rcases Nat.lt_or_ge i l.length with h | h
      · exact h
      · rw [List.drop_eq_nil_of_le h] at hd; cases hd
    have hm : l[i]? = some m := by rw [← List.head?_drop, hd]; rfl
    have hx : (l.map zM)[i]? = some (.agg [I m.xn, I m.xd, I m.yn, I m.yd]) := by rw [List.getElem?_map, hm]; rfl
    have hlt' : (i : Int) < (l.length : Int) := by omega
    have hw3 : IntKind.i64.wrap ((i : Int) + 1) = ((i + 1 : Nat) : Int) := by rw [wrap_i64 (by omega) (by omega)]; omega
    refine zk ?_
    try dsimp only [lp35_4, zz, zn, Tryd.f35]
    simp only [bW, if_true, Nat.reduceEqDiff, if_false]
    repeat' first
      | (intro hb; first | cases hb | skip)
      | ((first | apply z8 | apply ze)
         · rfl
         · simp (disch := assumption) only [go_sem, Nat.reduceEqDiff, Nat.reduceAdd, bP, zf, Nat.reduceLeDiff, Nat.reduceLT, Nat.reduceMul, List.length_append, decide_eq_true_eq, z9, z6, Int.reduceToNat, Int.reduceLE, Int.reduceLT, Int.reduceBNe, Int.reduceBEq, List.length_map, hx, hlt', hw3, eqElems, beq_self_eq_true]
           rfl
         · simp only [go_sem, Nat.reduceLT, Nat.reduceEqDiff]
           rfl
         · rfl
         first
         | (apply zd
            · simp only [z5, z0, Nat.reduceLT, decide_true, cond_true, ins]
              rfl
            · simp only [z5, z0, Nat.reduceLT, decide_true, cond_true, ins]
              rfl)
         | (apply zh
            · simp only [z5, z0, Nat.reduceLT, decide_true, cond_true, ins]
              rfl))
      | ((first | apply zb | apply zc)
         · rfl
         · simp only [z5, z0, Nat.reduceLT, decide_true, cond_true, ins]
           rfl)
      | (apply za
         · simp only [go_sem, Nat.reduceEqDiff])
      | (apply z7
         · simp only [go_sem, Nat.reduceEqDiff])
      | (apply zg
         · kernel_rfl
         · kernel_rfl)
      | (simp only [bW, if_true, Nat.reduceEqDiff, if_false])
    exact zu (st1 := ⟨26, [(0, .sl false (l.map zM) 4 none), (1, .sl false (l.map zM) 4 none), (5, I (i + 1 : Nat))], [], 0, 0⟩) lk35_4 (by kernel_rfl) (ih (i + 1) (by rw [← List.drop_drop, hd]; rfl) hlt)
theorem t35 (l : List F4) (hl : l.length ≤ 1000) : (lim cfg).pure 35 [.sl false (l.map zM) 4 none, .sl false (l.map zM) 4 none] = some (B true) := by
  refine zm (zj 35) cfn35 rfl (n := 26) rfl ?_
  generalize hF : finP cfg Tryd.f35 = F
  simp only [bW, if_true, Nat.reduceEqDiff, if_false, zl]
  repeat' first
    | (intro hb; first | cases hb | skip)
    | ((first | apply z8 | apply ze)
       · rfl
       · simp (disch := assumption) only [go_sem, Nat.reduceEqDiff, Nat.reduceAdd, bP, zf, Nat.reduceLeDiff, Nat.reduceLT, Nat.reduceMul, List.length_append, decide_eq_true_eq, z9, z6, Int.reduceToNat, Int.reduceLE, Int.reduceLT, Int.reduceBNe, Int.reduceBEq, List.length_map, bne_self_eq_false]
         rfl
       · simp only [go_sem, Nat.reduceLT, Nat.reduceEqDiff]
         rfl
       · rfl
       first
       | (apply zd
          · simp only [z5, z0, Nat.reduceLT, decide_true, cond_true, ins]
            rfl
          · simp only [z5, z0, Nat.reduceLT, decide_true, cond_true, ins]
            rfl)
       | (apply zh
          · simp only [z5, z0, Nat.reduceLT, decide_true, cond_true, ins]
            rfl))
    | ((first | apply zb | apply zc)
       · rfl
       · simp only [z5, z0, Nat.reduceLT, decide_true, cond_true, ins]
         rfl)
    | (apply za
       · simp only [go_sem, Nat.reduceEqDiff])
    | (apply z7
       · simp only [go_sem, Nat.reduceEqDiff])
    | (apply zg
       · kernel_rfl
       · kernel_rfl)
    | (simp only [bW, if_true, Nat.reduceEqDiff, if_false])
  refine w_loop (st1 := ⟨26, [(0, .sl false (l.map zM) 4 none), (1, .sl false (l.map zM) 4 none), (5, I (0 : Nat))], [], 0, 0⟩) lk35_4 (by kernel_rfl) (L35_4 l _ _ hl ?_ l 0 rfl (Nat.zero_le _))
  simp only [bW, if_true, Nat.reduceEqDiff, if_false]
  repeat' first
    | (intro hb; first | cases hb | skip)
    | ((first | apply z8 | apply ze)
       · rfl
       · simp (disch := assumption) only [go_sem, Nat.reduceEqDiff, Nat.reduceAdd, bP, zf, Nat.reduceLeDiff, Nat.reduceLT, Nat.reduceMul, List.length_append, decide_eq_true_eq, z9, z6, Int.reduceToNat, Int.reduceLE, Int.reduceLT, Int.reduceBNe, Int.reduceBEq]
         rfl
       · simp only [go_sem, Nat.reduceLT, Nat.reduceEqDiff]
         rfl
       · rfl
       first
       | (apply zd
          · simp only [z5, z0, Nat.reduceLT, decide_true, cond_true, ins]
            rfl
          · simp only [z5, z0, Nat.reduceLT, decide_true, cond_true, ins]
            rfl)
       | (apply zh
          · simp only [z5, z0, Nat.reduceLT, decide_true, cond_true, ins]
            rfl))
    | ((first | apply zb | apply zc)
       · rfl
       · simp only [z5, z0, Nat.reduceLT, decide_true, cond_true, ins]
         rfl)
    | (apply za
       · simp only [go_sem, Nat.reduceEqDiff])
    | (apply z7
       · simp only [go_sem, Nat.reduceEqDiff])
    | (apply zg
       · kernel_rfl
       · kernel_rfl)
    | (simp only [bW, if_true, Nat.reduceEqDiff, if_false])
  subst hF
  simp only [go_sem, Nat.reduceEqDiff, bP, Nat.reduceAdd, Nat.reduceLeDiff, List.length_map, Tryd.f35]
theorem t35n : (lim cfg).pure 35 [.sl true [] 0 none, .sl true [] 0 none] = some (B true) := lim_pure.2 ⟨30, by kernel_rfl⟩

theorem L34_6 {F : Exit → St → Option D} (p : Paper) (k : List Kt) (x : D) (hwf : p.wf) (hok : zq p = true) (hc0 : clashA p 0 = none) (hc1 : clashA p 1 = none) : ∀ (m i : Nat) (l h : List F4), (i : Int) + m = p.sheets → l.length + m ≤ 1000 → h.length = l.length →
    zC cfg (lim cfg) 34 F k (.exit 0) ⟨50, [(21, B false), (20, I p.sheets), (19, .lref 0 0 3 0), (18, I (i + m : Nat)), (1, .lref 0 0 3 0), (6, gD 1 4 (l ++ (List.range' i m).map (endF0 p))), (7, gD 2 4 (h ++ (List.range' i m).map (endF1 p))), (8, I (i + m : Nat))], (0, ⟨[zt p], 3, false⟩) :: (gO 1 4 zM (l ++ (List.range' i m).map (endF0 p)) ++ gO 2 4 zM (h ++ (List.range' i m).map (endF1 p))), gN (gN 1 (l ++ (List.range' i m).map (endF0 p))) (h ++ (List.range' i m).map (endF1 p)), 0⟩ = some x →
    EvL cfg (lim cfg) 34 F lp34_6 k ⟨50, [(1, .lref 0 0 3 0), (6, gD 1 4 (l)), (7, gD 2 4 (h)), (8, I (i : Nat))], (0, ⟨[zt p], 3, false⟩) :: (gO 1 4 zM (l) ++ gO 2 4 zM (h)), gN (gN 1 (l)) (h), 0⟩ = some x := by
  obtain ⟨o1, o2, _⟩ := zF hok
  intro m
  induction m with
  | zero =>
    intro i l h hi he hlh hh
    have hi' : ((i : Int) < p.sheets) = False := by simp; omega
    simp only [List.range'_zero, List.map_nil, List.append_nil, Nat.add_zero] at hh
    refine zk ?_
    try dsimp only [lp34_6, zz, zn, Tryd.f34]
    simp only [bW, if_true, Nat.reduceEqDiff, if_false]
    repeat' first
      | (intro hb; first | cases hb | skip)
      | ((first | apply z8 | apply ze)
         · rfl
         · simp (disch := assumption) only [go_sem, Nat.reduceEqDiff, Nat.reduceAdd, bP, zf, Nat.reduceLeDiff, Nat.reduceLT, Nat.reduceMul, List.length_append, decide_eq_true_eq, z9, z6, Int.reduceToNat, Int.reduceLE, Int.reduceLT, Int.reduceBNe, Int.reduceBEq, hi']
           rfl
         · simp only [go_sem, Nat.reduceLT, Nat.reduceEqDiff]
           rfl
         · rfl
         first
         | (apply zd
            · simp only [z5, z0, Nat.reduceLT, decide_true, cond_true, ins]
              rfl
            · simp only [z5, z0, Nat.reduceLT, decide_true, cond_true, ins]
              rfl)
         | (apply zh
            · simp only [z5, z0, Nat.reduceLT, decide_true, cond_true, ins]
              rfl))
      | ((first | apply zb | apply zc)
         · rfl
         · simp only [z5, z0, Nat.reduceLT, decide_true, cond_true, ins]
           rfl)
      | (apply za
         · simp only [go_sem, Nat.reduceEqDiff])
      | (apply z7
         · simp only [go_sem, Nat.reduceEqDiff])
      | (apply zg
         · kernel_rfl
         · kernel_rfl)
      | (simp only [bW, if_true, Nat.reduceEqDiff, if_false])
    exact hh
  | succ m ih =>
    intro i l h hi he hlh hh
    have hlt' : ((i : Int) < p.sheets) = True := by simp; omega
    have hw3 : IntKind.i64.wrap ((i : Int) + 1) = ((i + 1 : Nat) : Int) := by rw [wrap_i64 (by omega) (by omega)]; omega
    have hs : zy p i = true := by simp [zy]; omega
    have h83a := t83 p i 0 hwf hok hc0 hs
    have h83b := t83 p i 1 hwf hok hc1 hs
    rw [show i + (m + 1) = i + 1 + m by omega] at hh
    cases l with
    | nil =>
      cases h with
      | cons e' r' => simp at hlh
      | nil =>
        simp only [gD, gO, gN, List.nil_append, List.append_nil]
        refine zk ?_
        try dsimp only [lp34_6, zz, zn, Tryd.f34]
        simp only [bW, if_true, Nat.reduceEqDiff, if_false]
        repeat' first
          | (intro hb; first | cases hb | skip)
          | ((first | apply z8 | apply ze)
             · rfl
             · simp (disch := assumption) only [go_sem, Nat.reduceEqDiff, Nat.reduceAdd, bP, zf, Nat.reduceLeDiff, Nat.reduceLT, Nat.reduceMul, List.length_append, decide_eq_true_eq, z9, z6, Int.reduceToNat, Int.reduceLE, Int.reduceLT, Int.reduceBNe, Int.reduceBEq, okF.allOk, hlt', hw3, h83a, h83b, show (0 : Nat) < 2 from by decide, show (1 : Nat) < 2 from by decide]
               rfl
             · simp only [go_sem, Nat.reduceLT, Nat.reduceEqDiff]
               rfl
             · rfl
             first
             | (apply zd
                · simp only [z5, z0, Nat.reduceLT, decide_true, cond_true, ins]
                  rfl
                · simp only [z5, z0, Nat.reduceLT, decide_true, cond_true, ins]
                  rfl)
             | (apply zh
                · simp only [z5, z0, Nat.reduceLT, decide_true, cond_true, ins]
                  rfl))
          | ((first | apply zb | apply zc)
             · rfl
             · simp only [z5, z0, Nat.reduceLT, decide_true, cond_true, ins]
               rfl)
          | (apply za
             · simp only [go_sem, Nat.reduceEqDiff])
          | (apply z7
             · simp only [go_sem, Nat.reduceEqDiff])
          | (apply zg
             · kernel_rfl
             · kernel_rfl)
          | (simp only [bW, if_true, Nat.reduceEqDiff, if_false])
        refine zu (st1 := ⟨50, [(1, .lref 0 0 3 0), (6, gD 1 4 (([]) ++ [endF0 p i])), (7, gD 2 4 (([]) ++ [endF1 p i])), (8, I (i + 1 : Nat))], (0, ⟨[zt p], 3, false⟩) :: (gO 1 4 zM (([]) ++ [endF0 p i]) ++ gO 2 4 zM (([]) ++ [endF1 p i])), gN (gN 1 (([]) ++ [endF0 p i])) (([]) ++ [endF1 p i]), 0⟩) lk34_6 (by
          simp only [go_sem, List.map_append, Nat.reduceEqDiff, Nat.reduceLT, Nat.reduceAdd, bI, bD, bI2, okF.renL, okF.idsL, okF.idsL_app, gD, gO, gN, endF0, endF1, zM, zt, List.length_append, List.length_map]
          try rfl) (ih (i + 1) ([] ++ [endF0 p i]) ([] ++ [endF1 p i]) (by omega) (by simp at he ⊢; omega) (by simp at hlh ⊢; try omega) (by rw [List.range'_succ, List.map_cons, List.map_cons] at hh; simpa using hh))
    | cons e r =>
      cases h with
      | nil => simp at hlh
      | cons e' r' =>
        simp only [List.length_cons] at he hlh
        have hlr : r'.length = r.length := by omega
        have hle : (r.length + 1 + 1 ≤ r.length + 1) = False := by simp
        have hb1 : ((r.length + 1 + 1) * 32 ≤ big) = True := by simp [big]; omega
        have hb2 : (r.length + 1 + 1 ≤ big) = True := by simp [big]; omega
        have hao : allOk 4 (zM e :: List.map zM r) = true := okF.allOk (e :: r)
        have hao' : allOk 4 (zM e' :: List.map zM r') = true := okF.allOk (e' :: r')
        have hle' : (r'.length + 1 + 1 ≤ r'.length + 1) = False := by simp
        have hb1' : ((r'.length + 1 + 1) * 32 ≤ big) = True := by simp [big]; omega
        have hb2' : (r'.length + 1 + 1 ≤ big) = True := by simp [big]; omega
        simp only [gD, gO, gN, List.map_cons, List.cons_append, List.nil_append]
        refine zk ?_
        try dsimp only [lp34_6, zz, zn, Tryd.f34]
        simp only [bW, if_true, Nat.reduceEqDiff, if_false]
        repeat' first
          | (intro hb; first | cases hb | skip)
          | ((first | apply z8 | apply ze)
             · rfl
             · simp (disch := assumption) only [go_sem, Nat.reduceEqDiff, Nat.reduceAdd, bP, zf, Nat.reduceLeDiff, Nat.reduceLT, Nat.reduceMul, List.length_append, decide_eq_true_eq, z9, z6, Int.reduceToNat, Int.reduceLE, Int.reduceLT, Int.reduceBNe, Int.reduceBEq, okF.allOk, hlt', hw3, h83a, h83b, show (0 : Nat) < 2 from by decide, show (1 : Nat) < 2 from by decide, hle, hb1, hb2, hle', hb1', hb2', hao, hao', List.length_map]
               rfl
             · simp only [go_sem, Nat.reduceLT, Nat.reduceEqDiff]
               rfl
             · rfl
             first
             | (apply zd
                · simp only [z5, z0, Nat.reduceLT, decide_true, cond_true, ins]
                  rfl
                · simp only [z5, z0, Nat.reduceLT, decide_true, cond_true, ins]
                  rfl)
             | (apply zh
                · simp only [z5, z0, Nat.reduceLT, decide_true, cond_true, ins]
                  rfl))
          | ((first | apply zb | apply zc)
             · rfl
             · simp only [z5, z0, Nat.reduceLT, decide_true, cond_true, ins]
               rfl)
          | (apply za
             · simp only [go_sem, Nat.reduceEqDiff])
          | (apply z7
             · simp only [go_sem, Nat.reduceEqDiff])
          | (apply zg
             · kernel_rfl
             · kernel_rfl)
          | (simp only [bW, if_true, Nat.reduceEqDiff, if_false])
        refine zu (st1 := ⟨50, [(1, .lref 0 0 3 0), (6, gD 1 4 ((e :: r) ++ [endF0 p i])), (7, gD 2 4 ((e' :: r') ++ [endF1 p i])), (8, I (i + 1 : Nat))], (0, ⟨[zt p], 3, false⟩) :: (gO 1 4 zM ((e :: r) ++ [endF0 p i]) ++ gO 2 4 zM ((e' :: r') ++ [endF1 p i])), gN (gN 1 ((e :: r) ++ [endF0 p i])) ((e' :: r') ++ [endF1 p i]), 0⟩) lk34_6 (by
          simp only [go_sem, List.map_append, Nat.reduceEqDiff, Nat.reduceLT, Nat.reduceAdd, bI, bD, bI2, okF.renL, okF.idsL, okF.idsL_app, gD, gO, gN, endF0, endF1, zM, zt, List.length_append, List.length_map]
          try rfl) (ih (i + 1) (e :: r ++ [endF0 p i]) (e' :: r' ++ [endF1 p i]) (by omega) (by simp at he ⊢; omega) (by simp at hlh ⊢; try omega) (by rw [List.range'_succ, List.map_cons, List.map_cons] at hh; simpa using hh))
theorem t34 (p : Paper) (hwf : p.wf) : (lim cfg).pure 34 [zt p] = some (if zA p 0 [] = 0 then .tup [.sl false ((endsF0 p).map zM) 4 none, .sl false ((endsF1 p).map zM) 4 none, I 0] else .tup [.sl true [] 0 none, .sl true [] 0 none, I (zA p 0 [])]) := by
  have h82 := t82 p 0 true [] hwf 0 (by simp) (by simp) (by simp)
  simp only [List.map_nil] at h82
  by_cases hk : zA p 0 [] = 0
  · rw [if_pos hk]
    rw [hk] at h82
    obtain ⟨hok, hp, -, -⟩ := known_zero.1 hk
    obtain ⟨n, hn, n1, n2⟩ := sheet_pos hok
    have hE0 : endsF0 p = (List.range' 0 n).map (endF0 p) := by unfold endsF0; rw [hn]; rfl
    have hE1 : endsF1 p = (List.range' 0 n).map (endF1 p) := by unfold endsF1; rw [hn]; rfl
    rw [hE0, hE1]
    refine zm (zj 34) cfn34 rfl (n := 50) rfl ?_
    generalize hF : finP cfg Tryd.f34 = F
    simp only [bW, if_true, Nat.reduceEqDiff, if_false, zl]
    repeat' first
      | (intro hb; first | cases hb | skip)
      | ((first | apply z8 | apply ze)
         · rfl
         · simp (disch := assumption) only [go_sem, Nat.reduceEqDiff, Nat.reduceAdd, bP, zf, Nat.reduceLeDiff, Nat.reduceLT, Nat.reduceMul, List.length_append, decide_eq_true_eq, z9, z6, Int.reduceToNat, Int.reduceLE, Int.reduceLT, Int.reduceBNe, Int.reduceBEq, h82]
           rfl
         · simp only [go_sem, Nat.reduceLT, Nat.reduceEqDiff]
           rfl
         · rfl
         first
         | (apply zd
            · simp only [z5, z0, Nat.reduceLT, decide_true, cond_true, ins]
              rfl
            · simp only [z5, z0, Nat.reduceLT, decide_true, cond_true, ins]
              rfl)
         | (apply zh
            · simp only [z5, z0, Nat.reduceLT, decide_true, cond_true, ins]
              rfl))
      | ((first | apply zb | apply zc)
         · rfl
         · simp only [z5, z0, Nat.reduceLT, decide_true, cond_true, ins]
           rfl)
      | (apply za
         · simp only [go_sem, Nat.reduceEqDiff])
      | (apply z7
         · simp only [go_sem, Nat.reduceEqDiff])
      | (apply zg
         · kernel_rfl
         · kernel_rfl)
      | (simp only [bW, if_true, Nat.reduceEqDiff, if_false])
    refine w_loop (st1 := ⟨50, [(1, .lref 0 0 3 0), (6, gD 1 4 ([])), (7, gD 2 4 ([])), (8, I (0 : Nat))], (0, ⟨[zt p], 3, false⟩) :: (gO 1 4 zM ([]) ++ gO 2 4 zM ([])), gN (gN 1 ([])) ([]), 0⟩) lk34_6 (by
      simp only [go_sem, List.map_append, Nat.reduceEqDiff, Nat.reduceLT, Nat.reduceAdd, bI, bD, bI2, gD, gO, gN]
      try rfl) (L34_6 p _ _ hwf hok (poss_none hp rfl) (poss_none hp rfl) n 0 [] [] (by omega) (by simp; omega) rfl ?_)
    rw [List.nil_append, List.nil_append]
    have hl0 : ((List.range' 0 n).map (endF0 p)).length = n := by simp
    have hl1 : ((List.range' 0 n).map (endF1 p)).length = n := by simp
    generalize (List.range' 0 n).map (endF0 p) = A at *
    generalize (List.range' 0 n).map (endF1 p) = A' at *
    clear hE0 hE1
    cases A with
    | nil => simp at hl0; omega
    | cons e r =>
      cases A' with
      | nil => simp at hl1; omega
      | cons e' r' =>
        simp only [gD, gO, gN, List.cons_append, List.nil_append]
        have htk : List.take (r.length + 1) (List.map zM (e :: r)) = List.map zM (e :: r) := by rw [List.take_of_length_le]; simp
        have htk' : List.take (r'.length + 1) (List.map zM (e' :: r')) = List.map zM (e' :: r') := by rw [List.take_of_length_le]; simp
        simp only [List.map_cons] at htk htk'
        simp only [bW, if_true, Nat.reduceEqDiff, if_false]
        repeat' first
          | (intro hb; first | cases hb | skip)
          | ((first | apply z8 | apply ze)
             · rfl
             · simp (disch := assumption) only [go_sem, Nat.reduceEqDiff, Nat.reduceAdd, bP, zf, Nat.reduceLeDiff, Nat.reduceLT, Nat.reduceMul, List.length_append, decide_eq_true_eq, z9, z6, Int.reduceToNat, Int.reduceLE, Int.reduceLT, Int.reduceBNe, Int.reduceBEq]
               rfl
             · simp only [go_sem, Nat.reduceLT, Nat.reduceEqDiff]
               rfl
             · rfl
             first
             | (apply zd
                · simp only [z5, z0, Nat.reduceLT, decide_true, cond_true, ins]
                  rfl
                · simp only [z5, z0, Nat.reduceLT, decide_true, cond_true, ins]
                  rfl)
             | (apply zh
                · simp only [z5, z0, Nat.reduceLT, decide_true, cond_true, ins]
                  rfl))
          | ((first | apply zb | apply zc)
             · rfl
             · simp only [z5, z0, Nat.reduceLT, decide_true, cond_true, ins]
               rfl)
          | (apply za
             · simp only [go_sem, Nat.reduceEqDiff])
          | (apply z7
             · simp only [go_sem, Nat.reduceEqDiff])
          | (apply zg
             · kernel_rfl
             · kernel_rfl)
          | (simp only [bW, if_true, Nat.reduceEqDiff, if_false])
        subst hF
        simp only [go_sem, Nat.reduceEqDiff, bP, Nat.reduceAdd, Nat.reduceLeDiff, List.length_map, Tryd.f34, htk, htk', okF.snapAll, okF.snap]
  · rw [if_neg hk]
    have hne : (zA p 0 [] != 0) = true := by simp [hk]
    refine zm (zj 34) cfn34 rfl (n := 50) rfl ?_
    simp only [bW, if_true, Nat.reduceEqDiff, if_false, zl]
    repeat' first
      | (intro hb; first | cases hb | skip)
      | ((first | apply z8 | apply ze)
         · rfl
         · simp (disch := assumption) only [go_sem, Nat.reduceEqDiff, Nat.reduceAdd, bP, zf, Nat.reduceLeDiff, Nat.reduceLT, Nat.reduceMul, List.length_append, decide_eq_true_eq, z9, z6, Int.reduceToNat, Int.reduceLE, Int.reduceLT, Int.reduceBNe, Int.reduceBEq, h82, hne]
           rfl
         · simp only [go_sem, Nat.reduceLT, Nat.reduceEqDiff]
           rfl
         · rfl
         first
         | (apply zd
            · simp only [z5, z0, Nat.reduceLT, decide_true, cond_true, ins]
              rfl
            · simp only [z5, z0, Nat.reduceLT, decide_true, cond_true, ins]
              rfl)
         | (apply zh
            · simp only [z5, z0, Nat.reduceLT, decide_true, cond_true, ins]
              rfl))
      | ((first | apply zb | apply zc)
         · rfl
         · simp only [z5, z0, Nat.reduceLT, decide_true, cond_true, ins]
           rfl)
      | (apply za
         · simp only [go_sem, Nat.reduceEqDiff])
      | (apply z7
         · simp only [go_sem, Nat.reduceEqDiff])
      | (apply zg
         · kernel_rfl
         · kernel_rfl)
      | (simp only [bW, if_true, Nat.reduceEqDiff, if_false])
    all_goals try simp only [go_sem, Nat.reduceEqDiff, bP, Nat.reduceAdd, Nat.reduceLeDiff, List.length_map, Tryd.f34]
    all_goals first | done | rfl | (simp_all []; done) | trace_state

end Go.VS
namespace Go.VS
open Go Go.Proofs
set_option maxHeartbeats 0
set_option linter.unusedSimpArgs false

noncomputable def lp90_3 : Code := zz [1, 1, 0, 1, 0, 0] (zn Tryd.f90)
theorem lk90_3 : cfg.keep 90 (zr lp90_3) = [0, 1, 2, 7, 8, 9] := by kernel_rfl

noncomputable def lp43_7 : Code := zz [1, 1, 1, 0, 1, 0, 0] (zn Tryd.f43)
theorem lk43_7 : cfg.keep 43 (zr lp43_7) = [1, 3, 5, 6, 9] := by kernel_rfl

theorem and1 {a : Int} (h0 : 0 ≤ a) (h : a < 9223372036854775808) : IntKind.i64.wrap ((BitVec.ofInt 64 a &&& BitVec.ofInt 64 1).toNat : Int) = a % 2 := by
  obtain ⟨k, rfl⟩ := Int.eq_ofNat_of_zero_le h0
  have e1 : (BitVec.ofInt 64 (k : Int)).toNat = k := by
    rw [BitVec.toNat_ofInt]; simp; omega
  have e2 : (BitVec.ofInt 64 1).toNat = 2 ^ 1 - 1 := by decide
  rw [BitVec.toNat_and, e1, e2, Nat.and_two_pow_sub_one_eq_mod, wrap_i64 (by omega) (by omega)]
  omega
theorem shrN {a : Int} {m : Nat} (hm : m ≤ 31) : shiftOp .shr .i64 a (m : Nat) = some (I (a / 2 ^ m)) := by
  unfold shiftOp
  rw [if_neg (by omega)]
  simp only []
  rw [Int.toNat_natCast, show min m IntKind.i64.bits = m by show min m 64 = m; omega, Int.fdiv_eq_ediv_of_nonneg _ (Int.pow_nonneg (by omega))]
theorem io_add {k : IntKind} {a b : Int} : zf .add k a b = some (.val (.int k (k.wrap (a + b)))) := rfl
theorem io_sub {k : IntKind} {a b : Int} : zf .sub k a b = some (.val (.int k (k.wrap (a - b)))) := rfl
theorem io_mul {k : IntKind} {a b : Int} : zf .mul k a b = some (.val (.int k (k.wrap (a * b)))) := rfl
theorem io_quo {k : IntKind} {a b : Int} : zf .quo k a b = if b = 0 then none else some (.val (.int k (k.wrap (a.tdiv b)))) := rfl
theorem io_rem {k : IntKind} {a b : Int} : zf .rem k a b = if b = 0 then none else some (.val (.int k (a.tmod b))) := rfl
theorem io_eql {k : IntKind} {a b : Int} : zf .eql k a b = some (B (a == b)) := rfl
theorem io_lss {k : IntKind} {a b : Int} : zf .lss k a b = some (B (decide (a < b))) := rfl
theorem io_geq {k : IntKind} {a b : Int} : zf .geq k a b = some (B (decide (a ≥ b))) := rfl
theorem io_and {a : Int} (h0 : 0 ≤ a) (h : a < 9223372036854775808) : zf .and .i64 a 1 = some (I (a % 2)) := by
  rw [← and1 h0 h]; rfl
set_option linter.defProp false
def bIO := (And.intro (And.intro (And.intro @io_add @io_sub) (And.intro @io_mul @io_quo)) (And.intro (And.intro @io_rem @io_eql) (And.intro @io_lss @io_geq)))
/-- Behind a number's bits: what is whole, and what is left. -/
def dInv (n d X w r : Int) : Prop := 0 ≤ r ∧ r < d ∧ 0 ≤ w ∧ w ≤ 2 * X ∧ w * d + r = X * n

theorem L90_3 {F : Exit → St → Option D} (x n d : Int) (k : List Kt) (y : D) (hx0 : 0 ≤ x) (hx : x ≤ 8388608) (hn : 1 ≤ n) (hn' : n ≤ 2000000000000) (hd : 1 ≤ d) (hd' : d ≤ 2000000000000) (hnd : n ≤ 2 * d)
    (h : ∀ w r : Int, dInv n d x w r → zC cfg (lim cfg) 90 F k (.exit 0) ⟨50, [(11, B false), (10, I (-1)), (0, I x), (1, I n), (2, I d), (7, I (w)), (8, I (r)), (9, I (-1))], [], 0, 0⟩ = some y) : ∀ (m : Nat) (b w r : Int), b = (m : Int) - 1 → m ≤ 31 → dInv n d (x / 2 ^ m) w r → EvL cfg (lim cfg) 90 F lp90_3 k ⟨50, [(0, I x), (1, I n), (2, I d), (7, I (w)), (8, I (r)), (9, I (b))], [], 0, 0⟩ = some y := by
  intro m
  induction m with
  | zero =>
    intro b w r hb _ hi
    obtain rfl : b = -1 := by omega
    rw [Int.pow_zero, Int.ediv_one] at hi
    have h' := h w r hi
    clear h
    refine zk ?_
    try dsimp only [lp90_3, zz, zn, Tryd.f90]
    simp only [bW, if_true, Nat.reduceEqDiff, if_false]
    repeat' first
      | (intro hb; first | cases hb | skip)
      | ((first | apply z8 | apply ze)
         · rfl
         · simp (disch := assumption) only [go_sem, Nat.reduceEqDiff, Nat.reduceAdd, bP, zf, Nat.reduceLeDiff, Nat.reduceLT, Nat.reduceMul, List.length_append, decide_eq_true_eq, z9, z6, Int.reduceToNat, Int.reduceLE, Int.reduceLT, Int.reduceBNe, Int.reduceBEq, show decide ((-1 : Int) ≥ 0) = false from rfl]
           rfl
         · simp only [go_sem, Nat.reduceLT, Nat.reduceEqDiff]
           rfl
         · rfl
         first
         | (apply zd
            · simp only [z5, z0, Nat.reduceLT, decide_true, cond_true, ins]
              rfl
            · simp only [z5, z0, Nat.reduceLT, decide_true, cond_true, ins]
              rfl)
         | (apply zh
            · simp only [z5, z0, Nat.reduceLT, decide_true, cond_true, ins]
              rfl))
      | ((first | apply zb | apply zc)
         · rfl
         · simp only [z5, z0, Nat.reduceLT, decide_true, cond_true, ins]
           rfl)
      | (apply za
         · simp only [go_sem, Nat.reduceEqDiff])
      | (apply z7
         · simp only [go_sem, Nat.reduceEqDiff])
      | (apply zg
         · kernel_rfl
         · kernel_rfl)
      | (simp only [bW, if_true, Nat.reduceEqDiff, if_false])
    exact h'
  | succ m ih =>
    intro b w r hb hm hi
    obtain rfl : b = (m : Nat) := by omega
    obtain ⟨i1, i2, i3, i4, i5⟩ := hi
    have ih := fun b w r hb => ih b w r hb (by omega)
    have hX : x / 2 ^ (m + 1) = x / 2 ^ m / 2 := by rw [Int.pow_succ, Int.ediv_ediv_of_nonneg (Int.pow_nonneg (by omega))]
    rw [hX] at i4 i5
    have hY0 : 0 ≤ x / 2 ^ m := Int.ediv_nonneg hx0 (Int.pow_nonneg (by omega))
    have hY1 : x / 2 ^ m ≤ x := Int.ediv_le_self _ hx0
    have hsh := shrN (a := x) (m := m) (by omega)
    generalize x / 2 ^ m = Y at *
    have hge : decide ((m : Int) ≥ 0) = true := by simp
    have hw9 : IntKind.i64.wrap ((m : Int) - 1) = (m : Int) - 1 := wrap_i64 (by omega) (by omega)
    have hbit := io_and (a := Y) hY0 (by omega)
    have hq := Int.ediv_nonneg (show 0 ≤ n by omega) (show 0 ≤ d by omega)
    have hm1 := Int.emod_nonneg n (show d ≠ 0 by omega)
    have hm2 := Int.emod_lt_of_pos n (show 0 < d by omega)
    have hq2 : n / d ≤ 2 := Int.ediv_le_of_le_mul (by omega) (by omega)
    have hqd := Int.mul_ediv_add_emod n d
    have hw1 : IntKind.i64.wrap (2 * w) = 2 * w := wrap_i64 (by omega) (by omega)
    have hw2 : IntKind.i64.wrap (2 * r) = 2 * r := wrap_i64 (by omega) (by omega)
    have hw3 : IntKind.i64.wrap (n.tdiv d) = n / d := quo_wrap (by omega) (by omega) hd
    have hwb : n.tmod d = n % d := Int.tmod_eq_emod_of_nonneg (by omega)
    have hd0 : (d = 0) = False := by simp; omega
    have eY : Y = 2 * (Y / 2) + Y % 2 := by omega
    have eP : Y * n = 2 * (Y / 2 * n) + Y % 2 * n := by
      have : (2 * (Y / 2) + Y % 2) * n = 2 * (Y / 2 * n) + Y % 2 * n := by rw [Int.add_mul, Int.mul_assoc]
      rw [← eY] at this; exact this
    have hY2 : Y % 2 = 0 ∨ Y % 2 = 1 := by omega
    have ew : ∀ c : Int, (2 * w + c) * d = 2 * (w * d) + c * d := fun c => by rw [Int.add_mul, Int.mul_assoc]
    have hqd' : n / d * d = n - n % d := by rw [Int.mul_comm]; omega
    have fin : ∀ c r' : Int, 0 ≤ c → 0 ≤ r' → r' < d → c * d + r' = 2 * r + Y % 2 * n → dInv n d Y (2 * w + c) r' := by
      intro c r' c0 h1 h2 h3
      have e := ew c
      have h5 : (2 * w + c) * d + r' = Y * n := by omega
      refine ⟨h1, h2, by omega, ?_, h5⟩
      have h6 : (2 * w + c) * d ≤ 2 * Y * d := by
        have := Int.mul_le_mul_of_nonneg_left hnd hY0
        rw [← Int.mul_assoc, Int.mul_comm Y 2] at this
        omega
      exact Int.le_of_mul_le_mul_right h6 (by omega)
    by_cases c1 : 2 * r ≥ d
    · have hc1 : decide (2 * r ≥ d) = true := decide_eq_true c1
      have k1 : IntKind.i64.wrap (2 * r - d) = 2 * r - d := wrap_i64 (by omega) (by omega)
      have k2 : IntKind.i64.wrap (2 * w + 1) = 2 * w + 1 := wrap_i64 (by omega) (by omega)
      rcases hY2 with hb | hb
      · rw [hb] at hbit
        refine zk ?_
        try dsimp only [lp90_3, zz, zn, Tryd.f90]
        simp only [bW, if_true, Nat.reduceEqDiff, if_false]
        repeat' first
          | (intro hb; first | cases hb | skip)
          | ((first | apply z8 | apply ze)
             · rfl
             · simp (disch := assumption) only [go_sem, Nat.reduceEqDiff, Nat.reduceAdd, bP, bIO, Nat.reduceLeDiff, Nat.reduceLT, Nat.reduceMul, List.length_append, decide_eq_true_eq, z9, z6, Int.reduceToNat, Int.reduceLE, Int.reduceLT, Int.reduceBNe, Int.reduceBEq, hge, hc1, hsh, hbit, hw1, hw2, hw3, hwb, hw9, hd0, k1, k2]
               rfl
             · simp only [go_sem, Nat.reduceLT, Nat.reduceEqDiff]
               rfl
             · rfl
             first
             | (apply zd
                · simp only [z5, z0, Nat.reduceLT, decide_true, cond_true, ins]
                  rfl
                · simp only [z5, z0, Nat.reduceLT, decide_true, cond_true, ins]
                  rfl)
             | (apply zh
                · simp only [z5, z0, Nat.reduceLT, decide_true, cond_true, ins]
                  rfl))
          | ((first | apply zb | apply zc)
             · rfl
             · simp only [z5, z0, Nat.reduceLT, decide_true, cond_true, ins]
               rfl)
          | (apply za
             · simp only [go_sem, Nat.reduceEqDiff])
          | (apply z7
             · simp only [go_sem, Nat.reduceEqDiff])
          | (apply zg
             · kernel_rfl
             · kernel_rfl)
          | (simp only [bW, if_true, Nat.reduceEqDiff, if_false])
        refine zu (st1 := ⟨50, [(0, I x), (1, I n), (2, I d), (7, I (2 * w + 1)), (8, I (2 * r - d)), (9, I (((m : Nat) : Int) - 1))], [], 0, 0⟩) lk90_3 (by kernel_rfl) (ih _ _ _ rfl ?_)
        exact fin 1 _ (by omega) (by omega) (by omega) (by rw [hb]; omega)
      · rw [hb] at hbit
        have k3 : IntKind.i64.wrap (2 * w + 1 + n / d) = 2 * w + 1 + n / d := wrap_i64 (by omega) (by omega)
        have k4 : IntKind.i64.wrap (2 * r - d + n % d) = 2 * r - d + n % d := wrap_i64 (by omega) (by omega)
        by_cases c2 : 2 * r - d + n % d ≥ d
        · have hc2 : decide (2 * r - d + n % d ≥ d) = true := decide_eq_true c2
          have k5 : IntKind.i64.wrap (2 * r - d + n % d - d) = 2 * r - d + n % d - d := wrap_i64 (by omega) (by omega)
          have k6 : IntKind.i64.wrap (2 * w + 1 + n / d + 1) = 2 * w + 1 + n / d + 1 := wrap_i64 (by omega) (by omega)
          refine zk ?_
          try dsimp only [lp90_3, zz, zn, Tryd.f90]
          simp only [bW, if_true, Nat.reduceEqDiff, if_false]
          repeat' first
            | (intro hb; first | cases hb | skip)
            | ((first | apply z8 | apply ze)
               · rfl
               · simp (disch := assumption) only [go_sem, Nat.reduceEqDiff, Nat.reduceAdd, bP, bIO, Nat.reduceLeDiff, Nat.reduceLT, Nat.reduceMul, List.length_append, decide_eq_true_eq, z9, z6, Int.reduceToNat, Int.reduceLE, Int.reduceLT, Int.reduceBNe, Int.reduceBEq, hge, hc1, hsh, hbit, hw1, hw2, hw3, hwb, hw9, hd0, k1, k2, k3, k4, k5, k6, hc2]
                 rfl
               · simp only [go_sem, Nat.reduceLT, Nat.reduceEqDiff]
                 rfl
               · rfl
               first
               | (apply zd
                  · simp only [z5, z0, Nat.reduceLT, decide_true, cond_true, ins]
                    rfl
                  · simp only [z5, z0, Nat.reduceLT, decide_true, cond_true, ins]
                    rfl)
               | (apply zh
                  · simp only [z5, z0, Nat.reduceLT, decide_true, cond_true, ins]
                    rfl))
            | ((first | apply zb | apply zc)
               · rfl
               · simp only [z5, z0, Nat.reduceLT, decide_true, cond_true, ins]
                 rfl)
            | (apply za
               · simp only [go_sem, Nat.reduceEqDiff])
            | (apply z7
               · simp only [go_sem, Nat.reduceEqDiff])
            | (apply zg
               · kernel_rfl
               · kernel_rfl)
            | (simp only [bW, if_true, Nat.reduceEqDiff, if_false])
          refine zu (st1 := ⟨50, [(0, I x), (1, I n), (2, I d), (7, I (2 * w + 1 + n / d + 1)), (8, I (2 * r - d + n % d - d)), (9, I (((m : Nat) : Int) - 1))], [], 0, 0⟩) lk90_3 (by kernel_rfl) (ih _ _ _ rfl ?_)
          have := fin (1 + n / d + 1) (2 * r - d + n % d - d) (by omega) (by omega) (by omega) (by rw [hb, Int.add_mul, Int.add_mul]; omega)
          rw [show 2 * w + 1 + n / d + 1 = 2 * w + (1 + n / d + 1) by omega]; exact this
        · have hc2 : decide (2 * r - d + n % d ≥ d) = false := decide_eq_false c2
          refine zk ?_
          try dsimp only [lp90_3, zz, zn, Tryd.f90]
          simp only [bW, if_true, Nat.reduceEqDiff, if_false]
          repeat' first
            | (intro hb; first | cases hb | skip)
            | ((first | apply z8 | apply ze)
               · rfl
               · simp (disch := assumption) only [go_sem, Nat.reduceEqDiff, Nat.reduceAdd, bP, bIO, Nat.reduceLeDiff, Nat.reduceLT, Nat.reduceMul, List.length_append, decide_eq_true_eq, z9, z6, Int.reduceToNat, Int.reduceLE, Int.reduceLT, Int.reduceBNe, Int.reduceBEq, hge, hc1, hsh, hbit, hw1, hw2, hw3, hwb, hw9, hd0, k1, k2, k3, k4, hc2]
                 rfl
               · simp only [go_sem, Nat.reduceLT, Nat.reduceEqDiff]
                 rfl
               · rfl
               first
               | (apply zd
                  · simp only [z5, z0, Nat.reduceLT, decide_true, cond_true, ins]
                    rfl
                  · simp only [z5, z0, Nat.reduceLT, decide_true, cond_true, ins]
                    rfl)
               | (apply zh
                  · simp only [z5, z0, Nat.reduceLT, decide_true, cond_true, ins]
                    rfl))
            | ((first | apply zb | apply zc)
               · rfl
               · simp only [z5, z0, Nat.reduceLT, decide_true, cond_true, ins]
                 rfl)
            | (apply za
               · simp only [go_sem, Nat.reduceEqDiff])
            | (apply z7
               · simp only [go_sem, Nat.reduceEqDiff])
            | (apply zg
               · kernel_rfl
               · kernel_rfl)
            | (simp only [bW, if_true, Nat.reduceEqDiff, if_false])
          refine zu (st1 := ⟨50, [(0, I x), (1, I n), (2, I d), (7, I (2 * w + 1 + n / d)), (8, I (2 * r - d + n % d)), (9, I (((m : Nat) : Int) - 1))], [], 0, 0⟩) lk90_3 (by kernel_rfl) (ih _ _ _ rfl ?_)
          have := fin (1 + n / d) (2 * r - d + n % d) (by omega) (by omega) (by omega) (by rw [hb, Int.add_mul]; omega)
          rw [show 2 * w + 1 + n / d = 2 * w + (1 + n / d) by omega]; exact this
    · have hc1 : decide (2 * r ≥ d) = false := decide_eq_false c1
      rcases hY2 with hb | hb
      · rw [hb] at hbit
        refine zk ?_
        try dsimp only [lp90_3, zz, zn, Tryd.f90]
        simp only [bW, if_true, Nat.reduceEqDiff, if_false]
        repeat' first
          | (intro hb; first | cases hb | skip)
          | ((first | apply z8 | apply ze)
             · rfl
             · simp (disch := assumption) only [go_sem, Nat.reduceEqDiff, Nat.reduceAdd, bP, bIO, Nat.reduceLeDiff, Nat.reduceLT, Nat.reduceMul, List.length_append, decide_eq_true_eq, z9, z6, Int.reduceToNat, Int.reduceLE, Int.reduceLT, Int.reduceBNe, Int.reduceBEq, hge, hc1, hsh, hbit, hw1, hw2, hw3, hwb, hw9, hd0]
               rfl
             · simp only [go_sem, Nat.reduceLT, Nat.reduceEqDiff]
               rfl
             · rfl
             first
             | (apply zd
                · simp only [z5, z0, Nat.reduceLT, decide_true, cond_true, ins]
                  rfl
                · simp only [z5, z0, Nat.reduceLT, decide_true, cond_true, ins]
                  rfl)
             | (apply zh
                · simp only [z5, z0, Nat.reduceLT, decide_true, cond_true, ins]
                  rfl))
          | ((first | apply zb | apply zc)
             · rfl
             · simp only [z5, z0, Nat.reduceLT, decide_true, cond_true, ins]
               rfl)
          | (apply za
             · simp only [go_sem, Nat.reduceEqDiff])
          | (apply z7
             · simp only [go_sem, Nat.reduceEqDiff])
          | (apply zg
             · kernel_rfl
             · kernel_rfl)
          | (simp only [bW, if_true, Nat.reduceEqDiff, if_false])
        refine zu (st1 := ⟨50, [(0, I x), (1, I n), (2, I d), (7, I (2 * w)), (8, I (2 * r)), (9, I (((m : Nat) : Int) - 1))], [], 0, 0⟩) lk90_3 (by kernel_rfl) (ih _ _ _ rfl ?_)
        have := fin 0 (2 * r) (by omega) (by omega) (by omega) (by rw [hb]; omega)
        rw [Int.add_zero] at this; exact this
      · rw [hb] at hbit
        have k3 : IntKind.i64.wrap (2 * w + n / d) = 2 * w + n / d := wrap_i64 (by omega) (by omega)
        have k4 : IntKind.i64.wrap (2 * r + n % d) = 2 * r + n % d := wrap_i64 (by omega) (by omega)
        by_cases c2 : 2 * r + n % d ≥ d
        · have hc2 : decide (2 * r + n % d ≥ d) = true := decide_eq_true c2
          have k5 : IntKind.i64.wrap (2 * r + n % d - d) = 2 * r + n % d - d := wrap_i64 (by omega) (by omega)
          have k6 : IntKind.i64.wrap (2 * w + n / d + 1) = 2 * w + n / d + 1 := wrap_i64 (by omega) (by omega)
          refine zk ?_
          try dsimp only [lp90_3, zz, zn, Tryd.f90]
          simp only [bW, if_true, Nat.reduceEqDiff, if_false]
          repeat' first
            | (intro hb; first | cases hb | skip)
            | ((first | apply z8 | apply ze)
               · rfl
               · simp (disch := assumption) only [go_sem, Nat.reduceEqDiff, Nat.reduceAdd, bP, bIO, Nat.reduceLeDiff, Nat.reduceLT, Nat.reduceMul, List.length_append, decide_eq_true_eq, z9, z6, Int.reduceToNat, Int.reduceLE, Int.reduceLT, Int.reduceBNe, Int.reduceBEq, hge, hc1, hsh, hbit, hw1, hw2, hw3, hwb, hw9, hd0, k3, k4, k5, k6, hc2]
                 rfl
               · simp only [go_sem, Nat.reduceLT, Nat.reduceEqDiff]
                 rfl
               · rfl
               first
               | (apply zd
                  · simp only [z5, z0, Nat.reduceLT, decide_true, cond_true, ins]
                    rfl
                  · simp only [z5, z0, Nat.reduceLT, decide_true, cond_true, ins]
                    rfl)
               | (apply zh
                  · simp only [z5, z0, Nat.reduceLT, decide_true, cond_true, ins]
                    rfl))
            | ((first | apply zb | apply zc)
               · rfl
               · simp only [z5, z0, Nat.reduceLT, decide_true, cond_true, ins]
                 rfl)
            | (apply za
               · simp only [go_sem, Nat.reduceEqDiff])
            | (apply z7
               · simp only [go_sem, Nat.reduceEqDiff])
            | (apply zg
               · kernel_rfl
               · kernel_rfl)
            | (simp only [bW, if_true, Nat.reduceEqDiff, if_false])
          refine zu (st1 := ⟨50, [(0, I x), (1, I n), (2, I d), (7, I (2 * w + n / d + 1)), (8, I (2 * r + n % d - d)), (9, I (((m : Nat) : Int) - 1))], [], 0, 0⟩) lk90_3 (by kernel_rfl) (ih _ _ _ rfl ?_)
          have := fin (n / d + 1) (2 * r + n % d - d) (by omega) (by omega) (by omega) (by rw [hb, Int.add_mul]; omega)
          rw [show 2 * w + n / d + 1 = 2 * w + (n / d + 1) by omega]; exact this
        · have hc2 : decide (2 * r + n % d ≥ d) = false := decide_eq_false c2
          refine zk ?_
          try dsimp only [lp90_3, zz, zn, Tryd.f90]
          simp only [bW, if_true, Nat.reduceEqDiff, if_false]
          repeat' first
            | (intro hb; first | cases hb | skip)
            | ((first | apply z8 | apply ze)
               · rfl
               · simp (disch := assumption) only [go_sem, Nat.reduceEqDiff, Nat.reduceAdd, bP, bIO, Nat.reduceLeDiff, Nat.reduceLT, Nat.reduceMul, List.length_append, decide_eq_true_eq, z9, z6, Int.reduceToNat, Int.reduceLE, Int.reduceLT, Int.reduceBNe, Int.reduceBEq, hge, hc1, hsh, hbit, hw1, hw2, hw3, hwb, hw9, hd0, k3, k4, hc2]
                 rfl
               · simp only [go_sem, Nat.reduceLT, Nat.reduceEqDiff]
                 rfl
               · rfl
               first
               | (apply zd
                  · simp only [z5, z0, Nat.reduceLT, decide_true, cond_true, ins]
                    rfl
                  · simp only [z5, z0, Nat.reduceLT, decide_true, cond_true, ins]
                    rfl)
               | (apply zh
                  · simp only [z5, z0, Nat.reduceLT, decide_true, cond_true, ins]
                    rfl))
            | ((first | apply zb | apply zc)
               · rfl
               · simp only [z5, z0, Nat.reduceLT, decide_true, cond_true, ins]
                 rfl)
            | (apply za
               · simp only [go_sem, Nat.reduceEqDiff])
            | (apply z7
               · simp only [go_sem, Nat.reduceEqDiff])
            | (apply zg
               · kernel_rfl
               · kernel_rfl)
            | (simp only [bW, if_true, Nat.reduceEqDiff, if_false])
          refine zu (st1 := ⟨50, [(0, I x), (1, I n), (2, I d), (7, I (2 * w + n / d)), (8, I (2 * r + n % d)), (9, I (((m : Nat) : Int) - 1))], [], 0, 0⟩) lk90_3 (by kernel_rfl) (ih _ _ _ rfl ?_)
          exact fin (n / d) (2 * r + n % d) (by omega) (by omega) (by omega) (by rw [hb]; omega)
theorem t90 (x n d : Int) (hx0 : 0 ≤ x) (hx : x ≤ 8388608) (hn : 1 ≤ n) (hn' : n ≤ 2000000000000) (hd : 1 ≤ d) (hd' : d ≤ 2000000000000) (hnd : n ≤ 2 * d) : (lim cfg).pure 90 [I x, I n, I d] = some (I (x * n / d)) := by
  refine zm (zj 90) cfn90 rfl (n := 50) rfl ?_
  generalize hF : finP cfg Tryd.f90 = F
  simp only [bW, if_true, Nat.reduceEqDiff, if_false, zl]
  repeat' first
    | (intro hb; first | cases hb | skip)
    | ((first | apply z8 | apply ze)
       · rfl
       · simp (disch := assumption) only [go_sem, Nat.reduceEqDiff, Nat.reduceAdd, bP, zf, Nat.reduceLeDiff, Nat.reduceLT, Nat.reduceMul, List.length_append, decide_eq_true_eq, z9, z6, Int.reduceToNat, Int.reduceLE, Int.reduceLT, Int.reduceBNe, Int.reduceBEq]
         rfl
       · simp only [go_sem, Nat.reduceLT, Nat.reduceEqDiff]
         rfl
       · rfl
       first
       | (apply zd
          · simp only [z5, z0, Nat.reduceLT, decide_true, cond_true, ins]
            rfl
          · simp only [z5, z0, Nat.reduceLT, decide_true, cond_true, ins]
            rfl)
       | (apply zh
          · simp only [z5, z0, Nat.reduceLT, decide_true, cond_true, ins]
            rfl))
    | ((first | apply zb | apply zc)
       · rfl
       · simp only [z5, z0, Nat.reduceLT, decide_true, cond_true, ins]
         rfl)
    | (apply za
       · simp only [go_sem, Nat.reduceEqDiff])
    | (apply z7
       · simp only [go_sem, Nat.reduceEqDiff])
    | (apply zg
       · kernel_rfl
       · kernel_rfl)
    | (simp only [bW, if_true, Nat.reduceEqDiff, if_false])
  refine w_loop (st1 := ⟨50, [(0, I x), (1, I n), (2, I d), (7, I (0)), (8, I (0)), (9, I (30))], [], 0, 0⟩) lk90_3 (by kernel_rfl) (L90_3 x n d _ _ hx0 hx hn hn' hd hd' hnd (fun w r hi => ?_) 31 30 0 0 rfl (Nat.le_refl _) ?_)
  · have hw : x * n / d = w := by
      obtain ⟨i1, i2, i3, i4, i5⟩ := hi
      rw [← i5, Int.add_comm, Int.add_mul_ediv_right _ _ (by omega), Int.ediv_eq_zero_of_lt i1 i2, Int.zero_add]
    rw [hw]
    simp only [bW, if_true, Nat.reduceEqDiff, if_false]
    repeat' first
      | (intro hb; first | cases hb | skip)
      | ((first | apply z8 | apply ze)
         · rfl
         · simp (disch := assumption) only [go_sem, Nat.reduceEqDiff, Nat.reduceAdd, bP, zf, Nat.reduceLeDiff, Nat.reduceLT, Nat.reduceMul, List.length_append, decide_eq_true_eq, z9, z6, Int.reduceToNat, Int.reduceLE, Int.reduceLT, Int.reduceBNe, Int.reduceBEq]
           rfl
         · simp only [go_sem, Nat.reduceLT, Nat.reduceEqDiff]
           rfl
         · rfl
         first
         | (apply zd
            · simp only [z5, z0, Nat.reduceLT, decide_true, cond_true, ins]
              rfl
            · simp only [z5, z0, Nat.reduceLT, decide_true, cond_true, ins]
              rfl)
         | (apply zh
            · simp only [z5, z0, Nat.reduceLT, decide_true, cond_true, ins]
              rfl))
      | ((first | apply zb | apply zc)
         · rfl
         · simp only [z5, z0, Nat.reduceLT, decide_true, cond_true, ins]
           rfl)
      | (apply za
         · simp only [go_sem, Nat.reduceEqDiff])
      | (apply z7
         · simp only [go_sem, Nat.reduceEqDiff])
      | (apply zg
         · kernel_rfl
         · kernel_rfl)
      | (simp only [bW, if_true, Nat.reduceEqDiff, if_false])
    subst hF
    simp only [go_sem, Nat.reduceEqDiff, bP, Nat.reduceAdd, Nat.reduceLeDiff, List.length_map, Tryd.f90]
  · have : x / 2 ^ 31 = 0 := Int.ediv_eq_zero_of_lt hx0 (by omega)
    rw [this]
    exact ⟨by omega, by omega, by omega, by omega, by omega⟩

end Go.VS
namespace Go.VS
open Go Go.Proofs
set_option maxHeartbeats 0
set_option linter.unusedSimpArgs false

theorem dvd_iff (x n d : Nat) (hd : 1 ≤ d) : x % (d / n.gcd d) = 0 ↔ x * n % d = 0 := by
  have hg : 0 < n.gcd d := Nat.gcd_pos_of_pos_right _ (by omega)
  rw [← Nat.dvd_iff_mod_eq_zero, ← Nat.dvd_iff_mod_eq_zero]
  obtain ⟨d', hd'⟩ := Nat.gcd_dvd_right n d
  obtain ⟨n', hn'⟩ := Nat.gcd_dvd_left n d
  have hc : Nat.Coprime (n / n.gcd d) (d / n.gcd d) := Nat.coprime_div_gcd_div_gcd hg
  have e1 : d / n.gcd d = d' := Nat.div_eq_of_eq_mul_right hg hd'
  have e2 : n / n.gcd d = n' := Nat.div_eq_of_eq_mul_right hg hn'
  rw [e1, e2] at hc
  rw [e1]
  generalize n.gcd d = g at *
  subst hd'
  rw [hn']
  rw [show x * (g * n') = g * (x * n') by rw [Nat.mul_left_comm]]
  constructor
  · rintro ⟨c, rfl⟩
    exact ⟨c * n', by simp [Nat.mul_assoc]⟩
  · intro h
    have h2 := Nat.dvd_of_mul_dvd_mul_left hg h
    exact hc.symm.dvd_of_dvd_mul_right h2

theorem t91 (x n d : Int) (hx0 : 0 ≤ x) (hx : x ≤ 8388608) (hn : 1 ≤ n) (hn' : n ≤ 2000000000000) (hd : 1 ≤ d) (hd' : d ≤ 2000000000000) (hnd : n ≤ 2 * d) : (lim cfg).pure 91 [I x, I n, I d] = some (I (upR x ⟨n, d⟩)) := by
  have h90 := t90 x n d hx0 hx hn hn' hd hd' hnd
  obtain ⟨a, rfl⟩ := Int.eq_ofNat_of_zero_le (show 0 ≤ n by omega)
  obtain ⟨b, rfl⟩ := Int.eq_ofNat_of_zero_le (show 0 ≤ d by omega)
  obtain ⟨z, rfl⟩ := Int.eq_ofNat_of_zero_le hx0
  have h108 := t108 a b
  have hg : 0 < a.gcd b := Nat.gcd_pos_of_pos_right _ (by omega)
  have hg0 : (((a.gcd b : Nat) : Int) = 0) = False := by simp; omega
  have hq : IntKind.i64.wrap ((b : Int).tdiv ((a.gcd b : Nat) : Int)) = ((b / a.gcd b : Nat) : Int) := by
    rw [quo_wrap (by omega) (by omega) (by omega)]; rfl
  have hle := Nat.gcd_le_right a (show 0 < b by omega)
  have hq1 : 1 ≤ b / a.gcd b := Nat.div_pos hle hg
  have hq0 : (((b / a.gcd b : Nat) : Int) = 0) = False := by rw [eq_iff_iff, iff_false]; omega
  have hr : (z : Int).tmod ((b / a.gcd b : Nat) : Int) = ((z % (b / a.gcd b) : Nat) : Int) := rfl
  have hi := dvd_iff z a b (by omega)
  have hcast : ((z : Int) * a % b = 0) ↔ z * a % b = 0 := by
    rw [← Int.natCast_mul, ← Int.natCast_emod]; omega
  have hb2 : (z : Int) * a / b ≤ 2 * z := by
    refine Int.ediv_le_of_le_mul (by omega) ?_
    have := Int.mul_le_mul_of_nonneg_left hnd (show 0 ≤ (z : Int) by omega)
    rw [← Int.mul_assoc, Int.mul_comm (z : Int) 2] at this
    exact this
  have hb1 : 0 ≤ (z : Int) * a / b := Int.ediv_nonneg (Int.mul_nonneg (by omega) (by omega)) (by omega)
  have hw : IntKind.i64.wrap ((z : Int) * a / b + 1) = (z : Int) * a / b + 1 := wrap_i64 (by omega) (by omega)
  unfold upR
  simp only []
  by_cases hz : z * a % b = 0
  · rw [if_pos (hcast.2 hz)]
    have hz1 : (((z % (b / a.gcd b) : Nat) : Int) != 0) = false := by rw [hi.2 hz]; rfl
    refine zm (zj 91) cfn91 rfl (n := 25) rfl ?_
    simp only [bW, if_true, Nat.reduceEqDiff, if_false, zl]
    repeat' first
      | (intro hb; first | cases hb | skip)
      | ((first | apply z8 | apply ze)
         · rfl
         · simp (disch := assumption) only [go_sem, Nat.reduceEqDiff, Nat.reduceAdd, bP, zf, Nat.reduceLeDiff, Nat.reduceLT, Nat.reduceMul, List.length_append, decide_eq_true_eq, z9, z6, Int.reduceToNat, Int.reduceLE, Int.reduceLT, Int.reduceBNe, Int.reduceBEq, h90, h108, hg0, hq, hq0, hr, hz1]
           rfl
         · simp only [go_sem, Nat.reduceLT, Nat.reduceEqDiff]
           rfl
         · rfl
         first
         | (apply zd
            · simp only [z5, z0, Nat.reduceLT, decide_true, cond_true, ins]
              rfl
            · simp only [z5, z0, Nat.reduceLT, decide_true, cond_true, ins]
              rfl)
         | (apply zh
            · simp only [z5, z0, Nat.reduceLT, decide_true, cond_true, ins]
              rfl))
      | ((first | apply zb | apply zc)
         · rfl
         · simp only [z5, z0, Nat.reduceLT, decide_true, cond_true, ins]
           rfl)
      | (apply za
         · simp only [go_sem, Nat.reduceEqDiff])
      | (apply z7
         · simp only [go_sem, Nat.reduceEqDiff])
      | (apply zg
         · kernel_rfl
         · kernel_rfl)
      | (simp only [bW, if_true, Nat.reduceEqDiff, if_false])
    all_goals try simp only [go_sem, Nat.reduceEqDiff, bP, Nat.reduceAdd, Nat.reduceLeDiff, List.length_map, Tryd.f91]
    all_goals first | done | rfl | (simp_all []; done) | trace_state
  · rw [if_neg (fun h => hz (hcast.1 h))]
    have hz1 : (((z % (b / a.gcd b) : Nat) : Int) != 0) = true := by
      rw [bne_iff_ne]; intro h; exact hz (hi.1 (by omega))
    refine zm (zj 91) cfn91 rfl (n := 25) rfl ?_
    simp only [bW, if_true, Nat.reduceEqDiff, if_false, zl]
    repeat' first
      | (intro hb; first | cases hb | skip)
      | ((first | apply z8 | apply ze)
         · rfl
         · simp (disch := assumption) only [go_sem, Nat.reduceEqDiff, Nat.reduceAdd, bP, zf, Nat.reduceLeDiff, Nat.reduceLT, Nat.reduceMul, List.length_append, decide_eq_true_eq, z9, z6, Int.reduceToNat, Int.reduceLE, Int.reduceLT, Int.reduceBNe, Int.reduceBEq, h90, h108, hg0, hq, hq0, hr, hz1, hw]
           rfl
         · simp only [go_sem, Nat.reduceLT, Nat.reduceEqDiff]
           rfl
         · rfl
         first
         | (apply zd
            · simp only [z5, z0, Nat.reduceLT, decide_true, cond_true, ins]
              rfl
            · simp only [z5, z0, Nat.reduceLT, decide_true, cond_true, ins]
              rfl)
         | (apply zh
            · simp only [z5, z0, Nat.reduceLT, decide_true, cond_true, ins]
              rfl))
      | ((first | apply zb | apply zc)
         · rfl
         · simp only [z5, z0, Nat.reduceLT, decide_true, cond_true, ins]
           rfl)
      | (apply za
         · simp only [go_sem, Nat.reduceEqDiff])
      | (apply z7
         · simp only [go_sem, Nat.reduceEqDiff])
      | (apply zg
         · kernel_rfl
         · kernel_rfl)
      | (simp only [bW, if_true, Nat.reduceEqDiff, if_false])
    all_goals try simp only [go_sem, Nat.reduceEqDiff, bP, Nat.reduceAdd, Nat.reduceLeDiff, List.length_map, Tryd.f91]
    all_goals first | done | rfl | (simp_all []; done) | trace_state

theorem t90g (x : Int) (r : Ratio) (hx0 : 0 ≤ x) (hx : x ≤ 8388608) (h : goodQ r) : (lim cfg).pure 90 [I x, I r.n, I r.d] = some (I (dnF x r)) := by
  obtain ⟨⟨a, b, c⟩, d, e, f, g⟩ := h
  exact t90 x r.n r.d hx0 hx a f b g d
theorem t91g (x : Int) (r : Ratio) (hx0 : 0 ≤ x) (hx : x ≤ 8388608) (h : goodQ r) : (lim cfg).pure 91 [I x, I r.n, I r.d] = some (I (upR x r)) := by
  obtain ⟨⟨a, b, c⟩, d, e, f, g⟩ := h
  exact t91 x r.n r.d hx0 hx a f b g d

theorem t87 (s : Span) : (lim cfg).pure 87 [encS s] = some (B (spanOK s)) := by
  refine zm (zj 87) cfn87 rfl (n := 18) rfl ?_
  simp only [bW, if_true, Nat.reduceEqDiff, if_false, zl]
  repeat' first
    | (intro hb; first | cases hb | skip)
    | ((first | apply z8 | apply ze)
       · rfl
       · simp (disch := assumption) only [go_sem, Nat.reduceEqDiff, Nat.reduceAdd, bP, zf, Nat.reduceLeDiff, Nat.reduceLT, Nat.reduceMul, List.length_append, decide_eq_true_eq, z9, z6, Int.reduceToNat, Int.reduceLE, Int.reduceLT, Int.reduceBNe, Int.reduceBEq, encS]
         rfl
       · simp only [go_sem, Nat.reduceLT, Nat.reduceEqDiff]
         rfl
       · rfl
       first
       | (apply zd
          · simp only [z5, z0, Nat.reduceLT, decide_true, cond_true, ins]
            rfl
          · simp only [z5, z0, Nat.reduceLT, decide_true, cond_true, ins]
            rfl)
       | (apply zh
          · simp only [z5, z0, Nat.reduceLT, decide_true, cond_true, ins]
            rfl))
    | ((first | apply zb | apply zc)
       · rfl
       · simp only [z5, z0, Nat.reduceLT, decide_true, cond_true, ins]
         rfl)
    | (apply za
       · simp only [go_sem, Nat.reduceEqDiff])
    | (apply z7
       · simp only [go_sem, Nat.reduceEqDiff])
    | (apply zg
       · kernel_rfl
       · kernel_rfl)
    | (simp only [bW, if_true, Nat.reduceEqDiff, if_false])
  all_goals simp only [go_sem, Nat.reduceEqDiff, bP, Nat.reduceAdd, Nat.reduceLeDiff, List.length_map, Tryd.f87]
  all_goals first | rfl | (simp_all [spanOK]; done) | (simp_all [spanOK]; intros; omega)

theorem t88 (p : Paper) (s ax : Int) (x : Span) (hwf : p.wf) (hok : zq p = true) (hc : clashA p ax = none) (hs : zy p s = true) (h1 : 0 ≤ x.lo) (h2 : x.lo ≤ 8388608) (h3 : 0 ≤ x.hi) (h4 : x.hi ≤ 8388608) : (lim cfg).pure 88 [zt p, I s, I ax, .agg [I x.lo, I x.hi]] = some (.agg [I (lenF p s ax x).lo, I (lenF p s ax x).hi]) := by
  have h83 := t83 p s ax hwf hok hc hs
  obtain ⟨i, rfl, hi, _⟩ := sheet_nat hs
  have g1 := goodQ_inv (hi_good hok hc (i := i) (by omega))
  have g2 := goodQ_inv (lo_good hok hc (i := i) (by omega))
  have e1 := t90g x.lo _ h1 h2 g1
  have e2 := t91g x.hi _ h3 h4 g2
  have d1 : (lenF p i ax x).lo = dnF x.lo ⟨(hiF p i ax).d, (hiF p i ax).n⟩ := rfl
  have d2 : (lenF p i ax x).hi = upR x.hi ⟨(loF p i ax).d, (loF p i ax).n⟩ := rfl
  rw [d1, d2]
  simp only [] at e1 e2
  refine zm (zj 88) cfn88 rfl (n := 33) rfl ?_
  simp only [bW, if_true, Nat.reduceEqDiff, if_false, zl]
  repeat' first
    | (intro hb; first | cases hb | skip)
    | ((first | apply z8 | apply ze)
       · rfl
       · simp (disch := assumption) only [go_sem, Nat.reduceEqDiff, Nat.reduceAdd, bP, zf, Nat.reduceLeDiff, Nat.reduceLT, Nat.reduceMul, List.length_append, decide_eq_true_eq, z9, z6, Int.reduceToNat, Int.reduceLE, Int.reduceLT, Int.reduceBNe, Int.reduceBEq, h83, e1, e2]
         rfl
       · simp only [go_sem, Nat.reduceLT, Nat.reduceEqDiff]
         rfl
       · rfl
       first
       | (apply zd
          · simp only [z5, z0, Nat.reduceLT, decide_true, cond_true, ins]
            rfl
          · simp only [z5, z0, Nat.reduceLT, decide_true, cond_true, ins]
            rfl)
       | (apply zh
          · simp only [z5, z0, Nat.reduceLT, decide_true, cond_true, ins]
            rfl))
    | ((first | apply zb | apply zc)
       · rfl
       · simp only [z5, z0, Nat.reduceLT, decide_true, cond_true, ins]
         rfl)
    | (apply za
       · simp only [go_sem, Nat.reduceEqDiff])
    | (apply z7
       · simp only [go_sem, Nat.reduceEqDiff])
    | (apply zg
       · kernel_rfl
       · kernel_rfl)
    | (simp only [bW, if_true, Nat.reduceEqDiff, if_false])
  all_goals try simp only [go_sem, Nat.reduceEqDiff, bP, Nat.reduceAdd, Nat.reduceLeDiff, List.length_map, Tryd.f88]
  all_goals first | done | rfl | (simp_all []; done) | trace_state

theorem t39 (p : Paper) (s ax : Int) (x : Span) (hwf : p.wf) : (lim cfg).pure 39 [zt p, I s, I ax, .agg [I x.lo, I x.hi]] = some (if zA p ax [s] = 0 then (if spanOK x then .tup [Dsp (lenF p s ax x), I 0] else .tup [Dsp ⟨0, 0⟩, I 1]) else .tup [Dsp ⟨0, 0⟩, I (zA p ax [s])]) := by
  have h82 := t82 p ax false [s] hwf 1 (by simp) (by simp) (by simp)
  simp only [List.map_cons, List.map_nil] at h82
  have h87 := t87 x
  simp only [encS] at h87
  by_cases hk : zA p ax [s] = 0
  · rw [if_pos hk]
    rw [hk] at h82
    obtain ⟨hok, hp, hs, hax⟩ := known_zero.1 hk
    simp at hs
    cases hx : spanOK x with
    | false =>
      rw [hx] at h87
      simp only [Bool.false_eq_true, if_false]
      refine zm (zj 39) cfn39 rfl (n := 29) rfl ?_
      simp only [bW, if_true, Nat.reduceEqDiff, if_false, zl]
      repeat' first
        | (intro hb; first | cases hb | skip)
        | ((first | apply z8 | apply ze)
           · rfl
           · simp (disch := assumption) only [go_sem, Nat.reduceEqDiff, Nat.reduceAdd, bP, zf, Nat.reduceLeDiff, Nat.reduceLT, Nat.reduceMul, List.length_append, decide_eq_true_eq, z9, z6, Int.reduceToNat, Int.reduceLE, Int.reduceLT, Int.reduceBNe, Int.reduceBEq, h82, h87]
             rfl
           · simp only [go_sem, Nat.reduceLT, Nat.reduceEqDiff]
             rfl
           · rfl
           first
           | (apply zd
              · simp only [z5, z0, Nat.reduceLT, decide_true, cond_true, ins]
                rfl
              · simp only [z5, z0, Nat.reduceLT, decide_true, cond_true, ins]
                rfl)
           | (apply zh
              · simp only [z5, z0, Nat.reduceLT, decide_true, cond_true, ins]
                rfl))
        | ((first | apply zb | apply zc)
           · rfl
           · simp only [z5, z0, Nat.reduceLT, decide_true, cond_true, ins]
             rfl)
        | (apply za
           · simp only [go_sem, Nat.reduceEqDiff])
        | (apply z7
           · simp only [go_sem, Nat.reduceEqDiff])
        | (apply zg
           · kernel_rfl
           · kernel_rfl)
        | (simp only [bW, if_true, Nat.reduceEqDiff, if_false])
      all_goals try simp only [go_sem, Nat.reduceEqDiff, bP, Nat.reduceAdd, Nat.reduceLeDiff, List.length_map, Tryd.f39, Dsp]
      all_goals first | done | rfl | (simp_all []; done) | trace_state
    | true =>
      rw [hx] at h87
      simp only [if_true]
      obtain ⟨b1, b2, b3⟩ := span_B hx
      have h88 := t88 p s ax x hwf hok (poss_none hp hax) hs b1 (by omega) (by omega) (by omega)
      refine zm (zj 39) cfn39 rfl (n := 29) rfl ?_
      simp only [bW, if_true, Nat.reduceEqDiff, if_false, zl]
      repeat' first
        | (intro hb; first | cases hb | skip)
        | ((first | apply z8 | apply ze)
           · rfl
           · simp (disch := assumption) only [go_sem, Nat.reduceEqDiff, Nat.reduceAdd, bP, zf, Nat.reduceLeDiff, Nat.reduceLT, Nat.reduceMul, List.length_append, decide_eq_true_eq, z9, z6, Int.reduceToNat, Int.reduceLE, Int.reduceLT, Int.reduceBNe, Int.reduceBEq, h82, h87, h88]
             rfl
           · simp only [go_sem, Nat.reduceLT, Nat.reduceEqDiff]
             rfl
           · rfl
           first
           | (apply zd
              · simp only [z5, z0, Nat.reduceLT, decide_true, cond_true, ins]
                rfl
              · simp only [z5, z0, Nat.reduceLT, decide_true, cond_true, ins]
                rfl)
           | (apply zh
              · simp only [z5, z0, Nat.reduceLT, decide_true, cond_true, ins]
                rfl))
        | ((first | apply zb | apply zc)
           · rfl
           · simp only [z5, z0, Nat.reduceLT, decide_true, cond_true, ins]
             rfl)
        | (apply za
           · simp only [go_sem, Nat.reduceEqDiff])
        | (apply z7
           · simp only [go_sem, Nat.reduceEqDiff])
        | (apply zg
           · kernel_rfl
           · kernel_rfl)
        | (simp only [bW, if_true, Nat.reduceEqDiff, if_false])
      all_goals try simp only [go_sem, Nat.reduceEqDiff, bP, Nat.reduceAdd, Nat.reduceLeDiff, List.length_map, Tryd.f39, Dsp]
      all_goals first | done | rfl | (simp_all []; done) | trace_state
  · rw [if_neg hk]
    have hne : (zA p ax [s] != 0) = true := by simp [hk]
    refine zm (zj 39) cfn39 rfl (n := 29) rfl ?_
    simp only [bW, if_true, Nat.reduceEqDiff, if_false, zl]
    repeat' first
      | (intro hb; first | cases hb | skip)
      | ((first | apply z8 | apply ze)
         · rfl
         · simp (disch := assumption) only [go_sem, Nat.reduceEqDiff, Nat.reduceAdd, bP, zf, Nat.reduceLeDiff, Nat.reduceLT, Nat.reduceMul, List.length_append, decide_eq_true_eq, z9, z6, Int.reduceToNat, Int.reduceLE, Int.reduceLT, Int.reduceBNe, Int.reduceBEq, h82, hne]
           rfl
         · simp only [go_sem, Nat.reduceLT, Nat.reduceEqDiff]
           rfl
         · rfl
         first
         | (apply zd
            · simp only [z5, z0, Nat.reduceLT, decide_true, cond_true, ins]
              rfl
            · simp only [z5, z0, Nat.reduceLT, decide_true, cond_true, ins]
              rfl)
         | (apply zh
            · simp only [z5, z0, Nat.reduceLT, decide_true, cond_true, ins]
              rfl))
      | ((first | apply zb | apply zc)
         · rfl
         · simp only [z5, z0, Nat.reduceLT, decide_true, cond_true, ins]
           rfl)
      | (apply za
         · simp only [go_sem, Nat.reduceEqDiff])
      | (apply z7
         · simp only [go_sem, Nat.reduceEqDiff])
      | (apply zg
         · kernel_rfl
         · kernel_rfl)
      | (simp only [bW, if_true, Nat.reduceEqDiff, if_false])
    all_goals try simp only [go_sem, Nat.reduceEqDiff, bP, Nat.reduceAdd, Nat.reduceLeDiff, List.length_map, Tryd.f39, Dsp]
    all_goals first | done | rfl | (simp_all []; done) | trace_state

theorem t41 (p : Paper) (s : Int) (x : Span) (hwf : p.wf) : (lim cfg).pure 41 [zt p, I s, .agg [I x.lo, I x.hi]] = some (if zA p 0 [s] = 0 then (if spanOK x then .tup [Dsp (lenF p s 1 (lenF p s 0 x)), I 0] else .tup [Dsp ⟨0, 0⟩, I 1]) else .tup [Dsp ⟨0, 0⟩, I (zA p 0 [s])]) := by
  have h82 := t82 p 0 false [s] hwf 1 (by simp) (by simp) (by simp)
  simp only [List.map_cons, List.map_nil] at h82
  have h87 := t87 x
  simp only [encS] at h87
  by_cases hk : zA p 0 [s] = 0
  · rw [if_pos hk]
    rw [hk] at h82
    obtain ⟨hok, hp, hs, hax⟩ := known_zero.1 hk
    simp at hs
    cases hx : spanOK x with
    | false =>
      rw [hx] at h87
      simp only [Bool.false_eq_true, if_false]
      refine zm (zj 41) cfn41 rfl (n := 28) rfl ?_
      simp only [bW, if_true, Nat.reduceEqDiff, if_false, zl]
      repeat' first
        | (intro hb; first | cases hb | skip)
        | ((first | apply z8 | apply ze)
           · rfl
           · simp (disch := assumption) only [go_sem, Nat.reduceEqDiff, Nat.reduceAdd, bP, zf, Nat.reduceLeDiff, Nat.reduceLT, Nat.reduceMul, List.length_append, decide_eq_true_eq, z9, z6, Int.reduceToNat, Int.reduceLE, Int.reduceLT, Int.reduceBNe, Int.reduceBEq, h82, h87]
             rfl
           · simp only [go_sem, Nat.reduceLT, Nat.reduceEqDiff]
             rfl
           · rfl
           first
           | (apply zd
              · simp only [z5, z0, Nat.reduceLT, decide_true, cond_true, ins]
                rfl
              · simp only [z5, z0, Nat.reduceLT, decide_true, cond_true, ins]
                rfl)
           | (apply zh
              · simp only [z5, z0, Nat.reduceLT, decide_true, cond_true, ins]
                rfl))
        | ((first | apply zb | apply zc)
           · rfl
           · simp only [z5, z0, Nat.reduceLT, decide_true, cond_true, ins]
             rfl)
        | (apply za
           · simp only [go_sem, Nat.reduceEqDiff])
        | (apply z7
           · simp only [go_sem, Nat.reduceEqDiff])
        | (apply zg
           · kernel_rfl
           · kernel_rfl)
        | (simp only [bW, if_true, Nat.reduceEqDiff, if_false])
      all_goals try simp only [go_sem, Nat.reduceEqDiff, bP, Nat.reduceAdd, Nat.reduceLeDiff, List.length_map, Tryd.f41, Dsp]
      all_goals first | done | rfl | (simp_all []; done) | trace_state
    | true =>
      rw [hx] at h87
      simp only [if_true]
      obtain ⟨b1, b2, b3⟩ := span_B hx
      have h88 := t88 p s 0 x hwf hok (poss_none hp hax) hs b1 (by omega) (by omega) (by omega)
      obtain ⟨i, rfl, hi, _⟩ := sheet_nat hs
      obtain ⟨c1, c2, c3, c4⟩ := outB (span_B hx) (goodQ_inv (hi_good hok (poss_none hp hax) (i := i) (by omega))) (goodQ_inv (lo_good hok (poss_none hp hax) (i := i) (by omega)))
      have h88' := t88 p i 1 (lenF p i 0 x) hwf hok (poss_none hp rfl) hs c1 (by simp only [lenF, invR] at *; omega) c3 (by simp only [lenF, invR] at *; omega)
      refine zm (zj 41) cfn41 rfl (n := 28) rfl ?_
      simp only [bW, if_true, Nat.reduceEqDiff, if_false, zl]
      repeat' first
        | (intro hb; first | cases hb | skip)
        | ((first | apply z8 | apply ze)
           · rfl
           · simp (disch := assumption) only [go_sem, Nat.reduceEqDiff, Nat.reduceAdd, bP, zf, Nat.reduceLeDiff, Nat.reduceLT, Nat.reduceMul, List.length_append, decide_eq_true_eq, z9, z6, Int.reduceToNat, Int.reduceLE, Int.reduceLT, Int.reduceBNe, Int.reduceBEq, h82, h87, h88, h88']
             rfl
           · simp only [go_sem, Nat.reduceLT, Nat.reduceEqDiff]
             rfl
           · rfl
           first
           | (apply zd
              · simp only [z5, z0, Nat.reduceLT, decide_true, cond_true, ins]
                rfl
              · simp only [z5, z0, Nat.reduceLT, decide_true, cond_true, ins]
                rfl)
           | (apply zh
              · simp only [z5, z0, Nat.reduceLT, decide_true, cond_true, ins]
                rfl))
        | ((first | apply zb | apply zc)
           · rfl
           · simp only [z5, z0, Nat.reduceLT, decide_true, cond_true, ins]
             rfl)
        | (apply za
           · simp only [go_sem, Nat.reduceEqDiff])
        | (apply z7
           · simp only [go_sem, Nat.reduceEqDiff])
        | (apply zg
           · kernel_rfl
           · kernel_rfl)
        | (simp only [bW, if_true, Nat.reduceEqDiff, if_false])
      all_goals try simp only [go_sem, Nat.reduceEqDiff, bP, Nat.reduceAdd, Nat.reduceLeDiff, List.length_map, Tryd.f41, Dsp]
      all_goals first | done | rfl | (simp_all []; done) | trace_state
  · rw [if_neg hk]
    have hne : (zA p 0 [s] != 0) = true := by simp [hk]
    refine zm (zj 41) cfn41 rfl (n := 28) rfl ?_
    simp only [bW, if_true, Nat.reduceEqDiff, if_false, zl]
    repeat' first
      | (intro hb; first | cases hb | skip)
      | ((first | apply z8 | apply ze)
         · rfl
         · simp (disch := assumption) only [go_sem, Nat.reduceEqDiff, Nat.reduceAdd, bP, zf, Nat.reduceLeDiff, Nat.reduceLT, Nat.reduceMul, List.length_append, decide_eq_true_eq, z9, z6, Int.reduceToNat, Int.reduceLE, Int.reduceLT, Int.reduceBNe, Int.reduceBEq, h82, hne]
           rfl
         · simp only [go_sem, Nat.reduceLT, Nat.reduceEqDiff]
           rfl
         · rfl
         first
         | (apply zd
            · simp only [z5, z0, Nat.reduceLT, decide_true, cond_true, ins]
              rfl
            · simp only [z5, z0, Nat.reduceLT, decide_true, cond_true, ins]
              rfl)
         | (apply zh
            · simp only [z5, z0, Nat.reduceLT, decide_true, cond_true, ins]
              rfl))
      | ((first | apply zb | apply zc)
         · rfl
         · simp only [z5, z0, Nat.reduceLT, decide_true, cond_true, ins]
           rfl)
      | (apply za
         · simp only [go_sem, Nat.reduceEqDiff])
      | (apply z7
         · simp only [go_sem, Nat.reduceEqDiff])
      | (apply zg
         · kernel_rfl
         · kernel_rfl)
      | (simp only [bW, if_true, Nat.reduceEqDiff, if_false])
    all_goals try simp only [go_sem, Nat.reduceEqDiff, bP, Nat.reduceAdd, Nat.reduceLeDiff, List.length_map, Tryd.f41, Dsp]
    all_goals first | done | rfl | (simp_all []; done) | trace_state

theorem t43 (p : Paper) (s : Int) (x : Span) (hwf : p.wf) : (lim cfg).pure 43 [zt p, I s, .agg [I x.lo, I x.hi]] = some (if zA p 0 [s] = 0 then (if spanOK x then .tup [Dsp (seeF p s 1 (seeF p s 0 x)), I 0] else .tup [Dsp ⟨0, 0⟩, I 1]) else .tup [Dsp ⟨0, 0⟩, I (zA p 0 [s])]) := by
  have h82 := t82 p 0 false [s] hwf 1 (by simp) (by simp) (by simp)
  simp only [List.map_cons, List.map_nil] at h82
  have h87 := t87 x
  simp only [encS] at h87
  by_cases hk : zA p 0 [s] = 0
  · rw [if_pos hk]
    rw [hk] at h82
    obtain ⟨hok, hp, hs, hax⟩ := known_zero.1 hk
    simp at hs
    cases hx : spanOK x with
    | false =>
      rw [hx] at h87
      simp only [Bool.false_eq_true, if_false]
      refine zm (zj 43) cfn43 rfl (n := 51) rfl ?_
      simp only [bW, if_true, Nat.reduceEqDiff, if_false, zl]
      repeat' first
        | (intro hb; first | cases hb | skip)
        | ((first | apply z8 | apply ze)
           · rfl
           · simp (disch := assumption) only [go_sem, Nat.reduceEqDiff, Nat.reduceAdd, bP, zf, Nat.reduceLeDiff, Nat.reduceLT, Nat.reduceMul, List.length_append, decide_eq_true_eq, z9, z6, Int.reduceToNat, Int.reduceLE, Int.reduceLT, Int.reduceBNe, Int.reduceBEq, h82, h87]
             rfl
           · simp only [go_sem, Nat.reduceLT, Nat.reduceEqDiff]
             rfl
           · rfl
           first
           | (apply zd
              · simp only [z5, z0, Nat.reduceLT, decide_true, cond_true, ins]
                rfl
              · simp only [z5, z0, Nat.reduceLT, decide_true, cond_true, ins]
                rfl)
           | (apply zh
              · simp only [z5, z0, Nat.reduceLT, decide_true, cond_true, ins]
                rfl))
        | ((first | apply zb | apply zc)
           · rfl
           · simp only [z5, z0, Nat.reduceLT, decide_true, cond_true, ins]
             rfl)
        | (apply za
           · simp only [go_sem, Nat.reduceEqDiff])
        | (apply z7
           · simp only [go_sem, Nat.reduceEqDiff])
        | (apply zg
           · kernel_rfl
           · kernel_rfl)
        | (simp only [bW, if_true, Nat.reduceEqDiff, if_false])
      all_goals try simp only [go_sem, Nat.reduceEqDiff, bP, Nat.reduceAdd, Nat.reduceLeDiff, List.length_map, Tryd.f43, Dsp]
      all_goals first | done | rfl | (simp_all []; done) | trace_state
    | true =>
      rw [hx] at h87
      simp only [if_true]
      obtain ⟨b1, b2, b3⟩ := span_B hx
      have h830 := t83 p s 0 hwf hok (poss_none hp (show isAxis 0 = true from rfl)) hs
      have h831 := t83 p s 1 hwf hok (poss_none hp (show isAxis 1 = true from rfl)) hs
      obtain ⟨i, rfl, hi, _⟩ := sheet_nat hs
      have g1 := lo_good hok (poss_none hp (show isAxis 0 = true from rfl)) (i := i) (by omega)
      have g2 := hi_good hok (poss_none hp (show isAxis 0 = true from rfl)) (i := i) (by omega)
      have g3 := lo_good hok (poss_none hp (show isAxis 1 = true from rfl)) (i := i) (by omega)
      have g4 := hi_good hok (poss_none hp (show isAxis 1 = true from rfl)) (i := i) (by omega)
      obtain ⟨c1, c2, c3, c4⟩ := outB (span_B hx) g1 g2
      have e1 := t90g x.lo _ b1 (by omega) g1
      have e2 := t91g x.hi _ (by omega) (by omega) g2
      have e3 := t90g (outF x (loF p i 0) (hiF p i 0)).lo _ c1 (by omega) g3
      have e4 := t91g (outF x (loF p i 0) (hiF p i 0)).hi _ c3 (by omega) g4
      have d1 : (seeF p i 0 x).lo = dnF x.lo (loF p i 0) := rfl
      have d2 : (seeF p i 0 x).hi = upR x.hi (hiF p i 0) := rfl
      have d3 : (seeF p i 1 (seeF p i 0 x)).lo = dnF (outF x (loF p i 0) (hiF p i 0)).lo (loF p i 1) := rfl
      have d4 : (seeF p i 1 (seeF p i 0 x)).hi = upR (outF x (loF p i 0) (hiF p i 0)).hi (hiF p i 1) := rfl
      rw [← d1] at e1
      rw [← d2] at e2
      rw [← d3] at e3
      rw [← d4] at e4
      rw [show outF x (loF p i 0) (hiF p i 0) = seeF p i 0 x from rfl] at e3 e4
      refine zm (zj 43) cfn43 rfl (n := 51) rfl ?_
      simp only [bW, if_true, Nat.reduceEqDiff, if_false, zl]
      repeat' first
        | (intro hb; first | cases hb | skip)
        | ((first | apply z8 | apply ze)
           · rfl
           · simp (disch := assumption) only [go_sem, Nat.reduceEqDiff, Nat.reduceAdd, bP, zf, Nat.reduceLeDiff, Nat.reduceLT, Nat.reduceMul, List.length_append, decide_eq_true_eq, z9, z6, Int.reduceToNat, Int.reduceLE, Int.reduceLT, Int.reduceBNe, Int.reduceBEq, h82, h87]
             rfl
           · simp only [go_sem, Nat.reduceLT, Nat.reduceEqDiff]
             rfl
           · rfl
           first
           | (apply zd
              · simp only [z5, z0, Nat.reduceLT, decide_true, cond_true, ins]
                rfl
              · simp only [z5, z0, Nat.reduceLT, decide_true, cond_true, ins]
                rfl)
           | (apply zh
              · simp only [z5, z0, Nat.reduceLT, decide_true, cond_true, ins]
                rfl))
        | ((first | apply zb | apply zc)
           · rfl
           · simp only [z5, z0, Nat.reduceLT, decide_true, cond_true, ins]
             rfl)
        | (apply za
           · simp only [go_sem, Nat.reduceEqDiff])
        | (apply z7
           · simp only [go_sem, Nat.reduceEqDiff])
        | (apply zg
           · kernel_rfl
           · kernel_rfl)
        | (simp only [bW, if_true, Nat.reduceEqDiff, if_false])
      refine w_loop (st1 := ⟨51, [(1, I (i : Nat)), (3, .lref 0 0 3 0), (5, .lref 1 0 2 0), (6, .lref 2 0 2 0), (9, I 0)], [(0, ⟨[zt p], 3, false⟩), (1, ⟨[.agg [I (x).lo, I (x).hi]], 2, false⟩), (2, ⟨[.agg [I 0, I 0]], 2, false⟩)], 3, 0⟩) lk43_7 (by kernel_rfl) ?_
      refine zk ?_
      try dsimp only [lp43_7, zz, zn, Tryd.f43]
      simp only [bW, if_true, Nat.reduceEqDiff, if_false]
      repeat' first
        | (intro hb; first | cases hb | skip)
        | ((first | apply z8 | apply ze)
           · rfl
           · simp (disch := assumption) only [go_sem, Nat.reduceEqDiff, Nat.reduceAdd, bP, zf, Nat.reduceLeDiff, Nat.reduceLT, Nat.reduceMul, List.length_append, decide_eq_true_eq, z9, z6, Int.reduceToNat, Int.reduceLE, Int.reduceLT, Int.reduceBNe, Int.reduceBEq, h830, e1, e2, show (0 : Nat) < 2 from by decide, show (1 : Nat) < 2 from by decide, show IntKind.i64.wrap (0 + 1) = 1 from by decide, show IntKind.i64.wrap (1 + 1) = 2 from by decide]
             rfl
           · simp only [go_sem, Nat.reduceLT, Nat.reduceEqDiff]
             rfl
           · rfl
           first
           | (apply zd
              · simp only [z5, z0, Nat.reduceLT, decide_true, cond_true, ins]
                rfl
              · simp only [z5, z0, Nat.reduceLT, decide_true, cond_true, ins]
                rfl)
           | (apply zh
              · simp only [z5, z0, Nat.reduceLT, decide_true, cond_true, ins]
                rfl))
        | ((first | apply zb | apply zc)
           · rfl
           · simp only [z5, z0, Nat.reduceLT, decide_true, cond_true, ins]
             rfl)
        | (apply za
           · simp only [go_sem, Nat.reduceEqDiff])
        | (apply z7
           · simp only [go_sem, Nat.reduceEqDiff])
        | (apply zg
           · kernel_rfl
           · kernel_rfl)
        | (simp only [bW, if_true, Nat.reduceEqDiff, if_false])
      refine zu (st1 := ⟨51, [(1, I (i : Nat)), (3, .lref 0 0 3 0), (5, .lref 1 0 2 0), (6, .lref 2 0 2 0), (9, I 1)], [(0, ⟨[zt p], 3, false⟩), (1, ⟨[.agg [I (seeF p i 0 x).lo, I (seeF p i 0 x).hi]], 2, false⟩), (2, ⟨[.agg [I 0, I 0]], 2, false⟩)], 3, 0⟩) lk43_7 (by kernel_rfl) ?_
      refine zk ?_
      try dsimp only [lp43_7, zz, zn, Tryd.f43]
      simp only [bW, if_true, Nat.reduceEqDiff, if_false]
      repeat' first
        | (intro hb; first | cases hb | skip)
        | ((first | apply z8 | apply ze)
           · rfl
           · simp (disch := assumption) only [go_sem, Nat.reduceEqDiff, Nat.reduceAdd, bP, zf, Nat.reduceLeDiff, Nat.reduceLT, Nat.reduceMul, List.length_append, decide_eq_true_eq, z9, z6, Int.reduceToNat, Int.reduceLE, Int.reduceLT, Int.reduceBNe, Int.reduceBEq, h831, e3, e4, show (0 : Nat) < 2 from by decide, show (1 : Nat) < 2 from by decide, show IntKind.i64.wrap (0 + 1) = 1 from by decide, show IntKind.i64.wrap (1 + 1) = 2 from by decide]
             rfl
           · simp only [go_sem, Nat.reduceLT, Nat.reduceEqDiff]
             rfl
           · rfl
           first
           | (apply zd
              · simp only [z5, z0, Nat.reduceLT, decide_true, cond_true, ins]
                rfl
              · simp only [z5, z0, Nat.reduceLT, decide_true, cond_true, ins]
                rfl)
           | (apply zh
              · simp only [z5, z0, Nat.reduceLT, decide_true, cond_true, ins]
                rfl))
        | ((first | apply zb | apply zc)
           · rfl
           · simp only [z5, z0, Nat.reduceLT, decide_true, cond_true, ins]
             rfl)
        | (apply za
           · simp only [go_sem, Nat.reduceEqDiff])
        | (apply z7
           · simp only [go_sem, Nat.reduceEqDiff])
        | (apply zg
           · kernel_rfl
           · kernel_rfl)
        | (simp only [bW, if_true, Nat.reduceEqDiff, if_false])
      refine zu (st1 := ⟨51, [(1, I (i : Nat)), (3, .lref 0 0 3 0), (5, .lref 1 0 2 0), (6, .lref 2 0 2 0), (9, I 2)], [(0, ⟨[zt p], 3, false⟩), (1, ⟨[.agg [I (seeF p i 1 (seeF p i 0 x)).lo, I (seeF p i 1 (seeF p i 0 x)).hi]], 2, false⟩), (2, ⟨[.agg [I 0, I 0]], 2, false⟩)], 3, 0⟩) lk43_7 (by kernel_rfl) ?_
      refine zk ?_
      try dsimp only [lp43_7, zz, zn, Tryd.f43]
      simp only [bW, if_true, Nat.reduceEqDiff, if_false]
      repeat' first
        | (intro hb; first | cases hb | skip)
        | ((first | apply z8 | apply ze)
           · rfl
           · simp (disch := assumption) only [go_sem, Nat.reduceEqDiff, Nat.reduceAdd, bP, zf, Nat.reduceLeDiff, Nat.reduceLT, Nat.reduceMul, List.length_append, decide_eq_true_eq, z9, z6, Int.reduceToNat, Int.reduceLE, Int.reduceLT, Int.reduceBNe, Int.reduceBEq, show (0 : Nat) < 2 from by decide, show (1 : Nat) < 2 from by decide, show IntKind.i64.wrap (0 + 1) = 1 from by decide, show IntKind.i64.wrap (1 + 1) = 2 from by decide]
             rfl
           · simp only [go_sem, Nat.reduceLT, Nat.reduceEqDiff]
             rfl
           · rfl
           first
           | (apply zd
              · simp only [z5, z0, Nat.reduceLT, decide_true, cond_true, ins]
                rfl
              · simp only [z5, z0, Nat.reduceLT, decide_true, cond_true, ins]
                rfl)
           | (apply zh
              · simp only [z5, z0, Nat.reduceLT, decide_true, cond_true, ins]
                rfl))
        | ((first | apply zb | apply zc)
           · rfl
           · simp only [z5, z0, Nat.reduceLT, decide_true, cond_true, ins]
             rfl)
        | (apply za
           · simp only [go_sem, Nat.reduceEqDiff])
        | (apply z7
           · simp only [go_sem, Nat.reduceEqDiff])
        | (apply zg
           · kernel_rfl
           · kernel_rfl)
        | (simp only [bW, if_true, Nat.reduceEqDiff, if_false])
      all_goals try simp only [go_sem, Nat.reduceEqDiff, bP, Nat.reduceAdd, Nat.reduceLeDiff, List.length_map, Tryd.f43, Dsp]
      all_goals first | done | rfl | (simp_all []; done) | trace_state
  · rw [if_neg hk]
    have hne : (zA p 0 [s] != 0) = true := by simp [hk]
    refine zm (zj 43) cfn43 rfl (n := 51) rfl ?_
    simp only [bW, if_true, Nat.reduceEqDiff, if_false, zl]
    repeat' first
      | (intro hb; first | cases hb | skip)
      | ((first | apply z8 | apply ze)
         · rfl
         · simp (disch := assumption) only [go_sem, Nat.reduceEqDiff, Nat.reduceAdd, bP, zf, Nat.reduceLeDiff, Nat.reduceLT, Nat.reduceMul, List.length_append, decide_eq_true_eq, z9, z6, Int.reduceToNat, Int.reduceLE, Int.reduceLT, Int.reduceBNe, Int.reduceBEq, h82, hne]
           rfl
         · simp only [go_sem, Nat.reduceLT, Nat.reduceEqDiff]
           rfl
         · rfl
         first
         | (apply zd
            · simp only [z5, z0, Nat.reduceLT, decide_true, cond_true, ins]
              rfl
            · simp only [z5, z0, Nat.reduceLT, decide_true, cond_true, ins]
              rfl)
         | (apply zh
            · simp only [z5, z0, Nat.reduceLT, decide_true, cond_true, ins]
              rfl))
      | ((first | apply zb | apply zc)
         · rfl
         · simp only [z5, z0, Nat.reduceLT, decide_true, cond_true, ins]
           rfl)
      | (apply za
         · simp only [go_sem, Nat.reduceEqDiff])
      | (apply z7
         · simp only [go_sem, Nat.reduceEqDiff])
      | (apply zg
         · kernel_rfl
         · kernel_rfl)
      | (simp only [bW, if_true, Nat.reduceEqDiff, if_false])
    all_goals try simp only [go_sem, Nat.reduceEqDiff, bP, Nat.reduceAdd, Nat.reduceLeDiff, List.length_map, Tryd.f43, Dsp]
    all_goals first | done | rfl | (simp_all []; done) | trace_state

end Go.VS
namespace Go.VS
open Go Go.Proofs
set_option maxHeartbeats 0
set_option linter.unusedSimpArgs false

noncomputable def lp16_2 : Code := zz [1, 0, 1, 0, 0] (zn Tryd.f16)
theorem lk16_2 : cfg.keep 16 (zr lp16_2) = [1, 2, 9, 10, 11] := by kernel_rfl
noncomputable def lp16_5 : Code := zz [1, 0, 1, 0, 0, 1, 1, 0, 0, 1, 1, 0, 0] (zn Tryd.f16)
theorem lk16_5 : cfg.keep 16 (zr lp16_5) = [1, 2, 9, 10, 11, 15, 16] := by kernel_rfl

def smallR (n d : Int) : Bool := decide (1 ≤ n) && decide (1 ≤ d) && decide (n ≤ 100000) && decide (d ≤ 100000)
def small4 (f : F4) : Bool := smallR f.xn f.xd && smallR f.yn f.yd
def plainF (p : Paper) (fs : List F4) : Bool := fs.all small4 && decide ((fs.length : Int) = p.sheets)

theorem L16_2 {F : Exit → St → Option D} (p : Paper) (fs : List F4) (nf : Bool) (sf : Nat) (k : List Kt) (x : D) (hnf : nf = true → fs = []) (hsf : nf = false → sf = 4) (hl : fs.length ≤ 9223372036854775807) (hk : ∀ st, get st.tmps 4 = B false → zC cfg (lim cfg) 16 F k .ret st = some (B false)) : ∀ (rest : List F4) (i : Nat), fs.drop i = rest → i ≤ fs.length →
    (rest.all small4 = true → zC cfg (lim cfg) 16 F k (.exit 0) ⟨44, [(12, B false), (1, .sl nf (fs.map zM) sf none), (2, .lref 0 0 3 0), (9, .sl nf (fs.map zM) sf none), (10, I fs.length), (11, I (fs.length : Nat))], [(0, ⟨[zt p], 3, false⟩)], 1, 0⟩ = some x) →
    (rest.all small4 = false → x = B false) →
    EvL cfg (lim cfg) 16 F lp16_2 k ⟨44, [(1, .sl nf (fs.map zM) sf none), (2, .lref 0 0 3 0), (9, .sl nf (fs.map zM) sf none), (10, I fs.length), (11, I (i : Nat))], [(0, ⟨[zt p], 3, false⟩)], 1, 0⟩ = some x := by
  intro rest
  induction rest with
  | nil =>
    intro i hd hi h h'
    have hi' : i = fs.length := by
      have := List.drop_eq_nil_iff.1 hd
      omega
    subst hi'
    refine zk ?_
    try dsimp only [lp16_2, zz, zn, Tryd.f16]
    simp only [bW, if_true, Nat.reduceEqDiff, if_false]
    repeat' first
      | (intro hb; first | cases hb | skip)
      | ((first | apply z8 | apply ze)
         · rfl
         · simp (disch := assumption) only [go_sem, Nat.reduceEqDiff, Nat.reduceAdd, bP, zf, Nat.reduceLeDiff, Nat.reduceLT, Nat.reduceMul, List.length_append, decide_eq_true_eq, z9, z6, Int.reduceToNat, Int.reduceLE, Int.reduceLT, Int.reduceBNe, Int.reduceBEq, Int.lt_irrefl]
           rfl
         · simp only [go_sem, Nat.reduceLT, Nat.reduceEqDiff]
           rfl
         · rfl
         first
         | (apply zd
            · simp only [z5, z0, Nat.reduceLT, decide_true, cond_true, ins]
              rfl
            · simp only [z5, z0, Nat.reduceLT, decide_true, cond_true, ins]
              rfl)
         | (apply zh
            · simp only [z5, z0, Nat.reduceLT, decide_true, cond_true, ins]
              rfl))
      | ((first | apply zb | apply zc)
         · rfl
         · simp only [z5, z0, Nat.reduceLT, decide_true, cond_true, ins]
           rfl)
      | (apply za
         · simp only [go_sem, Nat.reduceEqDiff])
      | (apply z7
         · simp only [go_sem, Nat.reduceEqDiff])
      | (apply zg
         · kernel_rfl
         · kernel_rfl)
      | (simp only [bW, if_true, Nat.reduceEqDiff, if_false])
    exact h rfl
  | cons f rest ih =>
    intro i hd hi h h'
    have hlt : i < fs.length := by
      rcases Nat.lt_or_ge i fs.length with h | h
      · exact h
      · rw [List.drop_eq_nil_of_le h] at hd; cases hd
    have hf : fs[i]? = some f := by rw [← List.head?_drop, hd]; rfl
    have hx : (fs.map zM)[i]? = some (.agg [I f.xn, I f.xd, I f.yn, I f.yd]) := by rw [List.getElem?_map, hf]; rfl
    have hnf' : nf = false := by
      cases h : nf with
      | false => rfl
      | true => rw [hnf h] at hlt; cases hlt
    have hs1 := hsf hnf'
    clear hsf
    subst hs1
    have hlt' : (i : Int) < (fs.length : Int) := by omega
    have hw3 : IntKind.i64.wrap ((i : Int) + 1) = ((i + 1 : Nat) : Int) := by rw [wrap_i64 (by omega) (by omega)]; omega
    cases h1 : smallR f.xn f.xd with
    | false =>
      rw [h' (by simp [small4, h1])]
      simp only [smallR, Bool.and_eq_false_iff, decide_eq_false_iff_not] at h1
      refine zk ?_
      try dsimp only [lp16_2, zz, zn, Tryd.f16]
      simp only [bW, if_true, Nat.reduceEqDiff, if_false]
      repeat' first
        | (intro hb; first | cases hb | skip)
        | ((first | apply z8 | apply ze)
           · rfl
           · simp (disch := assumption) only [go_sem, Nat.reduceEqDiff, Nat.reduceAdd, bP, zf, Nat.reduceLeDiff, Nat.reduceLT, Nat.reduceMul, List.length_append, decide_eq_true_eq, z9, z6, Int.reduceToNat, Int.reduceLE, Int.reduceLT, Int.reduceBNe, Int.reduceBEq, hx, hnf', hlt', hw3, show (0 : Nat) < 2 from by decide, show (1 : Nat) < 2 from by decide, show IntKind.i64.wrap (0 + 1) = 1 from by decide, show IntKind.i64.wrap (1 + 1) = 2 from by decide]
             rfl
           · simp only [go_sem, Nat.reduceLT, Nat.reduceEqDiff]
             rfl
           · rfl
           first
           | (apply zd
              · simp only [z5, z0, Nat.reduceLT, decide_true, cond_true, ins]
                rfl
              · simp only [z5, z0, Nat.reduceLT, decide_true, cond_true, ins]
                rfl)
           | (apply zh
              · simp only [z5, z0, Nat.reduceLT, decide_true, cond_true, ins]
                rfl))
        | ((first | apply zb | apply zc)
           · rfl
           · simp only [z5, z0, Nat.reduceLT, decide_true, cond_true, ins]
             rfl)
        | (apply za
           · simp only [go_sem, Nat.reduceEqDiff])
        | (apply z7
           · simp only [go_sem, Nat.reduceEqDiff])
        | (apply zg
           · kernel_rfl
           · kernel_rfl)
        | (simp only [bW, if_true, Nat.reduceEqDiff, if_false])
      refine w_loop (st1 := ⟨44, [(1, .sl nf (fs.map zM) 4 none), (2, .lref 0 0 3 0), (9, .sl nf (fs.map zM) 4 none), (10, I fs.length), (11, I (i : Nat)), (15, .agg [I f.xn, I f.xd, I f.yn, I f.yd]), (16, I 0)], [(0, ⟨[zt p], 3, false⟩)], 1, 0⟩) lk16_5 (by kernel_rfl) ?_
      refine zk ?_
      try dsimp only [lp16_5, zz, zn, Tryd.f16]
      simp only [bW, if_true, Nat.reduceEqDiff, if_false]
      repeat' first
        | (intro hb; first | cases hb | skip)
        | ((first | apply z8 | apply ze)
           · rfl
           · simp (disch := assumption) only [go_sem, Nat.reduceEqDiff, Nat.reduceAdd, bP, zf, Nat.reduceLeDiff, Nat.reduceLT, Nat.reduceMul, List.length_append, decide_eq_true_eq, z9, z6, Int.reduceToNat, Int.reduceLE, Int.reduceLT, Int.reduceBNe, Int.reduceBEq, hx, hnf', hlt', hw3, show (0 : Nat) < 2 from by decide, show (1 : Nat) < 2 from by decide, show IntKind.i64.wrap (0 + 1) = 1 from by decide, show IntKind.i64.wrap (1 + 1) = 2 from by decide]
             rfl
           · simp only [go_sem, Nat.reduceLT, Nat.reduceEqDiff]
             rfl
           · rfl
           first
           | (apply zd
              · simp only [z5, z0, Nat.reduceLT, decide_true, cond_true, ins]
                rfl
              · simp only [z5, z0, Nat.reduceLT, decide_true, cond_true, ins]
                rfl)
           | (apply zh
              · simp only [z5, z0, Nat.reduceLT, decide_true, cond_true, ins]
                rfl))
        | ((first | apply zb | apply zc)
           · rfl
           · simp only [z5, z0, Nat.reduceLT, decide_true, cond_true, ins]
             rfl)
        | (apply za
           · simp only [go_sem, Nat.reduceEqDiff])
        | (apply z7
           · simp only [go_sem, Nat.reduceEqDiff])
        | (apply zg
           · kernel_rfl
           · kernel_rfl)
        | (simp only [bW, if_true, Nat.reduceEqDiff, if_false])
      all_goals first | exact hk _ rfl | (exfalso; simp_all; omega)
    | true =>
      simp only [smallR, Bool.and_eq_true, decide_eq_true_eq] at h1
      have a1 : (f.xn < 1) = False := by simp; omega
      have a2 : (f.xd < 1) = False := by simp; omega
      have a3 : (f.xn > 100000) = False := by simp; omega
      have a4 : (f.xd > 100000) = False := by simp; omega
      cases h2 : smallR f.yn f.yd with
      | false =>
        rw [h' (by simp [small4, h2])]
        simp only [smallR, Bool.and_eq_false_iff, decide_eq_false_iff_not] at h2
        refine zk ?_
        try dsimp only [lp16_2, zz, zn, Tryd.f16]
        simp only [bW, if_true, Nat.reduceEqDiff, if_false]
        repeat' first
          | (intro hb; first | cases hb | skip)
          | ((first | apply z8 | apply ze)
             · rfl
             · simp (disch := assumption) only [go_sem, Nat.reduceEqDiff, Nat.reduceAdd, bP, zf, Nat.reduceLeDiff, Nat.reduceLT, Nat.reduceMul, List.length_append, decide_eq_true_eq, z9, z6, Int.reduceToNat, Int.reduceLE, Int.reduceLT, Int.reduceBNe, Int.reduceBEq, hx, hnf', hlt', hw3, show (0 : Nat) < 2 from by decide, show (1 : Nat) < 2 from by decide, show IntKind.i64.wrap (0 + 1) = 1 from by decide, show IntKind.i64.wrap (1 + 1) = 2 from by decide]
               rfl
             · simp only [go_sem, Nat.reduceLT, Nat.reduceEqDiff]
               rfl
             · rfl
             first
             | (apply zd
                · simp only [z5, z0, Nat.reduceLT, decide_true, cond_true, ins]
                  rfl
                · simp only [z5, z0, Nat.reduceLT, decide_true, cond_true, ins]
                  rfl)
             | (apply zh
                · simp only [z5, z0, Nat.reduceLT, decide_true, cond_true, ins]
                  rfl))
          | ((first | apply zb | apply zc)
             · rfl
             · simp only [z5, z0, Nat.reduceLT, decide_true, cond_true, ins]
               rfl)
          | (apply za
             · simp only [go_sem, Nat.reduceEqDiff])
          | (apply z7
             · simp only [go_sem, Nat.reduceEqDiff])
          | (apply zg
             · kernel_rfl
             · kernel_rfl)
          | (simp only [bW, if_true, Nat.reduceEqDiff, if_false])
        refine w_loop (st1 := ⟨44, [(1, .sl nf (fs.map zM) 4 none), (2, .lref 0 0 3 0), (9, .sl nf (fs.map zM) 4 none), (10, I fs.length), (11, I (i : Nat)), (15, .agg [I f.xn, I f.xd, I f.yn, I f.yd]), (16, I 0)], [(0, ⟨[zt p], 3, false⟩)], 1, 0⟩) lk16_5 (by kernel_rfl) ?_
        refine zk ?_
        try dsimp only [lp16_5, zz, zn, Tryd.f16]
        simp only [bW, if_true, Nat.reduceEqDiff, if_false]
        repeat' first
          | (intro hb; first | cases hb | skip)
          | ((first | apply z8 | apply ze)
             · rfl
             · simp (disch := assumption) only [go_sem, Nat.reduceEqDiff, Nat.reduceAdd, bP, zf, Nat.reduceLeDiff, Nat.reduceLT, Nat.reduceMul, List.length_append, decide_eq_true_eq, z9, z6, Int.reduceToNat, Int.reduceLE, Int.reduceLT, Int.reduceBNe, Int.reduceBEq, hx, hnf', hlt', hw3, show (0 : Nat) < 2 from by decide, show (1 : Nat) < 2 from by decide, show IntKind.i64.wrap (0 + 1) = 1 from by decide, show IntKind.i64.wrap (1 + 1) = 2 from by decide, a1, a2, a3, a4]
               rfl
             · simp only [go_sem, Nat.reduceLT, Nat.reduceEqDiff]
               rfl
             · rfl
             first
             | (apply zd
                · simp only [z5, z0, Nat.reduceLT, decide_true, cond_true, ins]
                  rfl
                · simp only [z5, z0, Nat.reduceLT, decide_true, cond_true, ins]
                  rfl)
             | (apply zh
                · simp only [z5, z0, Nat.reduceLT, decide_true, cond_true, ins]
                  rfl))
          | ((first | apply zb | apply zc)
             · rfl
             · simp only [z5, z0, Nat.reduceLT, decide_true, cond_true, ins]
               rfl)
          | (apply za
             · simp only [go_sem, Nat.reduceEqDiff])
          | (apply z7
             · simp only [go_sem, Nat.reduceEqDiff])
          | (apply zg
             · kernel_rfl
             · kernel_rfl)
          | (simp only [bW, if_true, Nat.reduceEqDiff, if_false])
        refine zu (st1 := ⟨44, [(1, .sl nf (fs.map zM) 4 none), (2, .lref 0 0 3 0), (9, .sl nf (fs.map zM) 4 none), (10, I fs.length), (11, I (i : Nat)), (15, .agg [I f.xn, I f.xd, I f.yn, I f.yd]), (16, I 1)], [(0, ⟨[zt p], 3, false⟩)], 1, 0⟩) lk16_5 (by kernel_rfl) ?_
        refine zk ?_
        try dsimp only [lp16_5, zz, zn, Tryd.f16]
        simp only [bW, if_true, Nat.reduceEqDiff, if_false]
        repeat' first
          | (intro hb; first | cases hb | skip)
          | ((first | apply z8 | apply ze)
             · rfl
             · simp (disch := assumption) only [go_sem, Nat.reduceEqDiff, Nat.reduceAdd, bP, zf, Nat.reduceLeDiff, Nat.reduceLT, Nat.reduceMul, List.length_append, decide_eq_true_eq, z9, z6, Int.reduceToNat, Int.reduceLE, Int.reduceLT, Int.reduceBNe, Int.reduceBEq, hx, hnf', hlt', hw3, show (0 : Nat) < 2 from by decide, show (1 : Nat) < 2 from by decide, show IntKind.i64.wrap (0 + 1) = 1 from by decide, show IntKind.i64.wrap (1 + 1) = 2 from by decide]
               rfl
             · simp only [go_sem, Nat.reduceLT, Nat.reduceEqDiff]
               rfl
             · rfl
             first
             | (apply zd
                · simp only [z5, z0, Nat.reduceLT, decide_true, cond_true, ins]
                  rfl
                · simp only [z5, z0, Nat.reduceLT, decide_true, cond_true, ins]
                  rfl)
             | (apply zh
                · simp only [z5, z0, Nat.reduceLT, decide_true, cond_true, ins]
                  rfl))
          | ((first | apply zb | apply zc)
             · rfl
             · simp only [z5, z0, Nat.reduceLT, decide_true, cond_true, ins]
               rfl)
          | (apply za
             · simp only [go_sem, Nat.reduceEqDiff])
          | (apply z7
             · simp only [go_sem, Nat.reduceEqDiff])
          | (apply zg
             · kernel_rfl
             · kernel_rfl)
          | (simp only [bW, if_true, Nat.reduceEqDiff, if_false])
        all_goals first | exact hk _ rfl | (exfalso; simp_all; omega)
      | true =>
        have hs : small4 f = true := by simp [small4, smallR, h1, h2]; simp [smallR] at h2; omega
        simp only [List.all_cons, hs, Bool.true_and] at h h'
        simp only [smallR, Bool.and_eq_true, decide_eq_true_eq] at h2
        have b1 : (f.yn < 1) = False := by simp; omega
        have b2 : (f.yd < 1) = False := by simp; omega
        have b3 : (f.yn > 100000) = False := by simp; omega
        have b4 : (f.yd > 100000) = False := by simp; omega
        refine zk ?_
        try dsimp only [lp16_2, zz, zn, Tryd.f16]
        simp only [bW, if_true, Nat.reduceEqDiff, if_false]
        repeat' first
          | (intro hb; first | cases hb | skip)
          | ((first | apply z8 | apply ze)
             · rfl
             · simp (disch := assumption) only [go_sem, Nat.reduceEqDiff, Nat.reduceAdd, bP, zf, Nat.reduceLeDiff, Nat.reduceLT, Nat.reduceMul, List.length_append, decide_eq_true_eq, z9, z6, Int.reduceToNat, Int.reduceLE, Int.reduceLT, Int.reduceBNe, Int.reduceBEq, hx, hnf', hlt', hw3, show (0 : Nat) < 2 from by decide, show (1 : Nat) < 2 from by decide, show IntKind.i64.wrap (0 + 1) = 1 from by decide, show IntKind.i64.wrap (1 + 1) = 2 from by decide]
               rfl
             · simp only [go_sem, Nat.reduceLT, Nat.reduceEqDiff]
               rfl
             · rfl
             first
             | (apply zd
                · simp only [z5, z0, Nat.reduceLT, decide_true, cond_true, ins]
                  rfl
                · simp only [z5, z0, Nat.reduceLT, decide_true, cond_true, ins]
                  rfl)
             | (apply zh
                · simp only [z5, z0, Nat.reduceLT, decide_true, cond_true, ins]
                  rfl))
          | ((first | apply zb | apply zc)
             · rfl
             · simp only [z5, z0, Nat.reduceLT, decide_true, cond_true, ins]
               rfl)
          | (apply za
             · simp only [go_sem, Nat.reduceEqDiff])
          | (apply z7
             · simp only [go_sem, Nat.reduceEqDiff])
          | (apply zg
             · kernel_rfl
             · kernel_rfl)
          | (simp only [bW, if_true, Nat.reduceEqDiff, if_false])
        refine w_loop (st1 := ⟨44, [(1, .sl nf (fs.map zM) 4 none), (2, .lref 0 0 3 0), (9, .sl nf (fs.map zM) 4 none), (10, I fs.length), (11, I (i : Nat)), (15, .agg [I f.xn, I f.xd, I f.yn, I f.yd]), (16, I 0)], [(0, ⟨[zt p], 3, false⟩)], 1, 0⟩) lk16_5 (by kernel_rfl) ?_
        refine zk ?_
        try dsimp only [lp16_5, zz, zn, Tryd.f16]
        simp only [bW, if_true, Nat.reduceEqDiff, if_false]
        repeat' first
          | (intro hb; first | cases hb | skip)
          | ((first | apply z8 | apply ze)
             · rfl
             · simp (disch := assumption) only [go_sem, Nat.reduceEqDiff, Nat.reduceAdd, bP, zf, Nat.reduceLeDiff, Nat.reduceLT, Nat.reduceMul, List.length_append, decide_eq_true_eq, z9, z6, Int.reduceToNat, Int.reduceLE, Int.reduceLT, Int.reduceBNe, Int.reduceBEq, hx, hnf', hlt', hw3, show (0 : Nat) < 2 from by decide, show (1 : Nat) < 2 from by decide, show IntKind.i64.wrap (0 + 1) = 1 from by decide, show IntKind.i64.wrap (1 + 1) = 2 from by decide, a1, a2, a3, a4]
               rfl
             · simp only [go_sem, Nat.reduceLT, Nat.reduceEqDiff]
               rfl
             · rfl
             first
             | (apply zd
                · simp only [z5, z0, Nat.reduceLT, decide_true, cond_true, ins]
                  rfl
                · simp only [z5, z0, Nat.reduceLT, decide_true, cond_true, ins]
                  rfl)
             | (apply zh
                · simp only [z5, z0, Nat.reduceLT, decide_true, cond_true, ins]
                  rfl))
          | ((first | apply zb | apply zc)
             · rfl
             · simp only [z5, z0, Nat.reduceLT, decide_true, cond_true, ins]
               rfl)
          | (apply za
             · simp only [go_sem, Nat.reduceEqDiff])
          | (apply z7
             · simp only [go_sem, Nat.reduceEqDiff])
          | (apply zg
             · kernel_rfl
             · kernel_rfl)
          | (simp only [bW, if_true, Nat.reduceEqDiff, if_false])
        refine zu (st1 := ⟨44, [(1, .sl nf (fs.map zM) 4 none), (2, .lref 0 0 3 0), (9, .sl nf (fs.map zM) 4 none), (10, I fs.length), (11, I (i : Nat)), (15, .agg [I f.xn, I f.xd, I f.yn, I f.yd]), (16, I 1)], [(0, ⟨[zt p], 3, false⟩)], 1, 0⟩) lk16_5 (by kernel_rfl) ?_
        refine zk ?_
        try dsimp only [lp16_5, zz, zn, Tryd.f16]
        simp only [bW, if_true, Nat.reduceEqDiff, if_false]
        repeat' first
          | (intro hb; first | cases hb | skip)
          | ((first | apply z8 | apply ze)
             · rfl
             · simp (disch := assumption) only [go_sem, Nat.reduceEqDiff, Nat.reduceAdd, bP, zf, Nat.reduceLeDiff, Nat.reduceLT, Nat.reduceMul, List.length_append, decide_eq_true_eq, z9, z6, Int.reduceToNat, Int.reduceLE, Int.reduceLT, Int.reduceBNe, Int.reduceBEq, hx, hnf', hlt', hw3, show (0 : Nat) < 2 from by decide, show (1 : Nat) < 2 from by decide, show IntKind.i64.wrap (0 + 1) = 1 from by decide, show IntKind.i64.wrap (1 + 1) = 2 from by decide, b1, b2, b3, b4]
               rfl
             · simp only [go_sem, Nat.reduceLT, Nat.reduceEqDiff]
               rfl
             · rfl
             first
             | (apply zd
                · simp only [z5, z0, Nat.reduceLT, decide_true, cond_true, ins]
                  rfl
                · simp only [z5, z0, Nat.reduceLT, decide_true, cond_true, ins]
                  rfl)
             | (apply zh
                · simp only [z5, z0, Nat.reduceLT, decide_true, cond_true, ins]
                  rfl))
          | ((first | apply zb | apply zc)
             · rfl
             · simp only [z5, z0, Nat.reduceLT, decide_true, cond_true, ins]
               rfl)
          | (apply za
             · simp only [go_sem, Nat.reduceEqDiff])
          | (apply z7
             · simp only [go_sem, Nat.reduceEqDiff])
          | (apply zg
             · kernel_rfl
             · kernel_rfl)
          | (simp only [bW, if_true, Nat.reduceEqDiff, if_false])
        refine zu (st1 := ⟨44, [(1, .sl nf (fs.map zM) 4 none), (2, .lref 0 0 3 0), (9, .sl nf (fs.map zM) 4 none), (10, I fs.length), (11, I (i : Nat)), (15, .agg [I f.xn, I f.xd, I f.yn, I f.yd]), (16, I 2)], [(0, ⟨[zt p], 3, false⟩)], 1, 0⟩) lk16_5 (by kernel_rfl) ?_
        refine zk ?_
        try dsimp only [lp16_5, zz, zn, Tryd.f16]
        simp only [bW, if_true, Nat.reduceEqDiff, if_false]
        repeat' first
          | (intro hb; first | cases hb | skip)
          | ((first | apply z8 | apply ze)
             · rfl
             · simp (disch := assumption) only [go_sem, Nat.reduceEqDiff, Nat.reduceAdd, bP, zf, Nat.reduceLeDiff, Nat.reduceLT, Nat.reduceMul, List.length_append, decide_eq_true_eq, z9, z6, Int.reduceToNat, Int.reduceLE, Int.reduceLT, Int.reduceBNe, Int.reduceBEq, hx, hnf', hlt', hw3, show (0 : Nat) < 2 from by decide, show (1 : Nat) < 2 from by decide, show IntKind.i64.wrap (0 + 1) = 1 from by decide, show IntKind.i64.wrap (1 + 1) = 2 from by decide]
               rfl
             · simp only [go_sem, Nat.reduceLT, Nat.reduceEqDiff]
               rfl
             · rfl
             first
             | (apply zd
                · simp only [z5, z0, Nat.reduceLT, decide_true, cond_true, ins]
                  rfl
                · simp only [z5, z0, Nat.reduceLT, decide_true, cond_true, ins]
                  rfl)
             | (apply zh
                · simp only [z5, z0, Nat.reduceLT, decide_true, cond_true, ins]
                  rfl))
          | ((first | apply zb | apply zc)
             · rfl
             · simp only [z5, z0, Nat.reduceLT, decide_true, cond_true, ins]
               rfl)
          | (apply za
             · simp only [go_sem, Nat.reduceEqDiff])
          | (apply z7
             · simp only [go_sem, Nat.reduceEqDiff])
          | (apply zg
             · kernel_rfl
             · kernel_rfl)
          | (simp only [bW, if_true, Nat.reduceEqDiff, if_false])
        exact zu (st1 := ⟨44, [(1, .sl nf (fs.map zM) 4 none), (2, .lref 0 0 3 0), (9, .sl nf (fs.map zM) 4 none), (10, I fs.length), (11, I (i + 1 : Nat))], [(0, ⟨[zt p], 3, false⟩)], 1, 0⟩) lk16_2 (by kernel_rfl) (ih (i + 1) (by rw [← List.drop_drop, hd]; rfl) hlt h h')
theorem t16 (p : Paper) (fs : List F4) (nf : Bool) (sf : Nat) (hnf : nf = true → fs = []) (hsf : nf = false → sf = 4) (hl : fs.length ≤ 9223372036854775807) : (lim cfg).pure 16 [zt p, .sl nf (fs.map zM) sf none] = some (B (plainF p fs)) := by
  have hlf := len_if (f := zM) hnf
  refine zm (zj 16) cfn16 rfl (n := 44) rfl ?_
  generalize hF : finP cfg Tryd.f16 = F
  simp only [bW, if_true, Nat.reduceEqDiff, if_false, zl]
  repeat' first
    | (intro hb; first | cases hb | skip)
    | ((first | apply z8 | apply ze)
       · rfl
       · simp (disch := assumption) only [go_sem, Nat.reduceEqDiff, Nat.reduceAdd, bP, zf, Nat.reduceLeDiff, Nat.reduceLT, Nat.reduceMul, List.length_append, decide_eq_true_eq, z9, z6, Int.reduceToNat, Int.reduceLE, Int.reduceLT, Int.reduceBNe, Int.reduceBEq, hlf]
         rfl
       · simp only [go_sem, Nat.reduceLT, Nat.reduceEqDiff]
         rfl
       · rfl
       first
       | (apply zd
          · simp only [z5, z0, Nat.reduceLT, decide_true, cond_true, ins]
            rfl
          · simp only [z5, z0, Nat.reduceLT, decide_true, cond_true, ins]
            rfl)
       | (apply zh
          · simp only [z5, z0, Nat.reduceLT, decide_true, cond_true, ins]
            rfl))
    | ((first | apply zb | apply zc)
       · rfl
       · simp only [z5, z0, Nat.reduceLT, decide_true, cond_true, ins]
         rfl)
    | (apply za
       · simp only [go_sem, Nat.reduceEqDiff])
    | (apply z7
       · simp only [go_sem, Nat.reduceEqDiff])
    | (apply zg
       · kernel_rfl
       · kernel_rfl)
    | (simp only [bW, if_true, Nat.reduceEqDiff, if_false])
  have hend : ∀ v st, get st.tmps 4 = B v → F .ret st = some (B v) := by
    intro v st hd
    subst hF
    simp only [go_sem, Nat.reduceEqDiff, bP, Nat.reduceAdd, Nat.reduceLeDiff, List.length_map, Tryd.f16, hd]
  refine w_loop (st1 := ⟨44, [(1, .sl nf (fs.map zM) sf none), (2, .lref 0 0 3 0), (9, .sl nf (fs.map zM) sf none), (10, I fs.length), (11, I (0 : Nat))], [(0, ⟨[zt p], 3, false⟩)], 1, 0⟩) lk16_2 (by kernel_rfl) (L16_2 p fs nf sf _ _ hnf hsf hl (fun st hd => ?_) fs 0 rfl (Nat.zero_le _) (fun ha => ?_) (fun ha => by simp [plainF, ha]))
  · simp only [bW, if_true, Nat.reduceEqDiff, if_false]
    exact hend false st hd
  · by_cases hlen : (fs.length : Int) = p.sheets
    · have hb : ((fs.length : Int) == p.sheets) = true := by simp [hlen]
      rw [show plainF p fs = true by simp [plainF, ha, hlen]]
      simp only [bW, if_true, Nat.reduceEqDiff, if_false]
      repeat' first
        | (intro hb; first | cases hb | skip)
        | ((first | apply z8 | apply ze)
           · rfl
           · simp (disch := assumption) only [go_sem, Nat.reduceEqDiff, Nat.reduceAdd, bP, zf, Nat.reduceLeDiff, Nat.reduceLT, Nat.reduceMul, List.length_append, decide_eq_true_eq, z9, z6, Int.reduceToNat, Int.reduceLE, Int.reduceLT, Int.reduceBNe, Int.reduceBEq, hlf, hb]
             rfl
           · simp only [go_sem, Nat.reduceLT, Nat.reduceEqDiff]
             rfl
           · rfl
           first
           | (apply zd
              · simp only [z5, z0, Nat.reduceLT, decide_true, cond_true, ins]
                rfl
              · simp only [z5, z0, Nat.reduceLT, decide_true, cond_true, ins]
                rfl)
           | (apply zh
              · simp only [z5, z0, Nat.reduceLT, decide_true, cond_true, ins]
                rfl))
        | ((first | apply zb | apply zc)
           · rfl
           · simp only [z5, z0, Nat.reduceLT, decide_true, cond_true, ins]
             rfl)
        | (apply za
           · simp only [go_sem, Nat.reduceEqDiff])
        | (apply z7
           · simp only [go_sem, Nat.reduceEqDiff])
        | (apply zg
           · kernel_rfl
           · kernel_rfl)
        | (simp only [bW, if_true, Nat.reduceEqDiff, if_false])
      exact hend true _ rfl
    · have hb : ((fs.length : Int) == p.sheets) = false := by simp [hlen]
      rw [show plainF p fs = false by simp [plainF, hlen]]
      simp only [bW, if_true, Nat.reduceEqDiff, if_false]
      repeat' first
        | (intro hb; first | cases hb | skip)
        | ((first | apply z8 | apply ze)
           · rfl
           · simp (disch := assumption) only [go_sem, Nat.reduceEqDiff, Nat.reduceAdd, bP, zf, Nat.reduceLeDiff, Nat.reduceLT, Nat.reduceMul, List.length_append, decide_eq_true_eq, z9, z6, Int.reduceToNat, Int.reduceLE, Int.reduceLT, Int.reduceBNe, Int.reduceBEq, hlf, hb]
             rfl
           · simp only [go_sem, Nat.reduceLT, Nat.reduceEqDiff]
             rfl
           · rfl
           first
           | (apply zd
              · simp only [z5, z0, Nat.reduceLT, decide_true, cond_true, ins]
                rfl
              · simp only [z5, z0, Nat.reduceLT, decide_true, cond_true, ins]
                rfl)
           | (apply zh
              · simp only [z5, z0, Nat.reduceLT, decide_true, cond_true, ins]
                rfl))
        | ((first | apply zb | apply zc)
           · rfl
           · simp only [z5, z0, Nat.reduceLT, decide_true, cond_true, ins]
             rfl)
        | (apply za
           · simp only [go_sem, Nat.reduceEqDiff])
        | (apply z7
           · simp only [go_sem, Nat.reduceEqDiff])
        | (apply zg
           · kernel_rfl
           · kernel_rfl)
        | (simp only [bW, if_true, Nat.reduceEqDiff, if_false])
      exact hend false _ rfl

end Go.VS
namespace Go.VS
open Go Go.Proofs
set_option maxHeartbeats 0
set_option linter.unusedSimpArgs false

theorem x38 (p : Paper) (s ax : Int) (x : Span) (hwf : p.wf) : ∃ (y : Span) (k : Int), (lim cfg).pure 38 [zt p, I s, I ax, .agg [I x.lo, I x.hi]] = some (.tup [.agg [I y.lo, I y.hi], I k]) ∧ (lim cfg).pure 39 [zt p, I s, I ax, .agg [I x.lo, I x.hi]] = some (.tup [.agg [I y.lo, I y.hi], I k]) := by
  have h1 := t38 p s ax x hwf
  have h2 := t39 p s ax x hwf
  by_cases hk : zA p ax [s] = 0
  · rw [if_pos hk] at h1 h2
    cases hx : spanOK x <;> rw [hx] at h1 h2 <;> exact ⟨_, _, h1, h2⟩
  · rw [if_neg hk] at h1 h2; exact ⟨_, _, h1, h2⟩
theorem x40 (p : Paper) (s : Int) (x : Span) (hwf : p.wf) : ∃ (y : Span) (k : Int), (lim cfg).pure 40 [zt p, I s, .agg [I x.lo, I x.hi]] = some (.tup [.agg [I y.lo, I y.hi], I k]) ∧ (lim cfg).pure 41 [zt p, I s, .agg [I x.lo, I x.hi]] = some (.tup [.agg [I y.lo, I y.hi], I k]) := by
  have h1 := t40 p s x hwf
  have h2 := t41 p s x hwf
  by_cases hk : zA p 0 [s] = 0
  · rw [if_pos hk] at h1 h2
    cases hx : spanOK x <;> rw [hx] at h1 h2 <;> exact ⟨_, _, h1, h2⟩
  · rw [if_neg hk] at h1 h2; exact ⟨_, _, h1, h2⟩
theorem x42 (p : Paper) (s : Int) (x : Span) (hwf : p.wf) : ∃ (y : Span) (k : Int), (lim cfg).pure 42 [zt p, I s, .agg [I x.lo, I x.hi]] = some (.tup [.agg [I y.lo, I y.hi], I k]) ∧ (lim cfg).pure 43 [zt p, I s, .agg [I x.lo, I x.hi]] = some (.tup [.agg [I y.lo, I y.hi], I k]) := by
  have h1 := t42 p s x hwf
  have h2 := t43 p s x hwf
  by_cases hk : zA p 0 [s] = 0
  · rw [if_pos hk] at h1 h2
    cases hx : spanOK x <;> rw [hx] at h1 h2 <;> exact ⟨_, _, h1, h2⟩
  · rw [if_neg hk] at h1 h2; exact ⟨_, _, h1, h2⟩

theorem t8 (p : Paper) (s ax : Int) (x : Span) (hwf : p.wf) : (lim cfg).pure 8 [zt p, I s, I ax, encS x] = some (B true) := by
  have h17 := t17 p hwf
  obtain ⟨u, ku, a1, a2⟩ := x38 p s ax x hwf
  obtain ⟨v, kv, b1, b2⟩ := x40 p s x hwf
  obtain ⟨w, kw, c1, c2⟩ := x42 p s x hwf
  unfold encS
  cases hfew : (decide (p.marks.length ≤ 26) && decide (p.joins.length ≤ 26)) with
  | false =>
    rw [hfew] at h17
    refine zm (zj 8) cfn8 rfl (n := 98) rfl ?_
    simp only [bW, if_true, Nat.reduceEqDiff, if_false, zl]
    repeat' first
      | (intro hb; first | cases hb | skip)
      | ((first | apply z8 | apply ze)
         · rfl
         · simp (disch := assumption) only [go_sem, Nat.reduceEqDiff, Nat.reduceAdd, bP, zf, Nat.reduceLeDiff, Nat.reduceLT, Nat.reduceMul, List.length_append, decide_eq_true_eq, z9, z6, Int.reduceToNat, Int.reduceLE, Int.reduceLT, Int.reduceBNe, Int.reduceBEq, t14, h17]
           rfl
         · simp only [go_sem, Nat.reduceLT, Nat.reduceEqDiff]
           rfl
         · rfl
         first
         | (apply zd
            · simp only [z5, z0, Nat.reduceLT, decide_true, cond_true, ins]
              rfl
            · simp only [z5, z0, Nat.reduceLT, decide_true, cond_true, ins]
              rfl)
         | (apply zh
            · simp only [z5, z0, Nat.reduceLT, decide_true, cond_true, ins]
              rfl))
      | ((first | apply zb | apply zc)
         · rfl
         · simp only [z5, z0, Nat.reduceLT, decide_true, cond_true, ins]
           rfl)
      | (apply za
         · simp only [go_sem, Nat.reduceEqDiff])
      | (apply z7
         · simp only [go_sem, Nat.reduceEqDiff])
      | (apply zg
         · kernel_rfl
         · kernel_rfl)
      | (simp only [bW, if_true, Nat.reduceEqDiff, if_false])
    all_goals try simp only [go_sem, Nat.reduceEqDiff, bP, Nat.reduceAdd, Nat.reduceLeDiff, List.length_map, Tryd.f8]
    all_goals first | done | rfl | (simp_all []; done) | trace_state
  | true =>
    rw [hfew] at h17
    refine zm (zj 8) cfn8 rfl (n := 98) rfl ?_
    simp only [bW, if_true, Nat.reduceEqDiff, if_false, zl]
    repeat' first
      | (intro hb; first | cases hb | skip)
      | ((first | apply z8 | apply ze)
         · rfl
         · simp (disch := assumption) only [go_sem, Nat.reduceEqDiff, Nat.reduceAdd, bP, zf, Nat.reduceLeDiff, Nat.reduceLT, Nat.reduceMul, List.length_append, decide_eq_true_eq, z9, z6, Int.reduceToNat, Int.reduceLE, Int.reduceLT, Int.reduceBNe, Int.reduceBEq, t14, h17, a1, a2, b1, b2, c1, c2, beq_self_eq_true]
           rfl
         · simp only [go_sem, Nat.reduceLT, Nat.reduceEqDiff]
           rfl
         · rfl
         first
         | (apply zd
            · simp only [z5, z0, Nat.reduceLT, decide_true, cond_true, ins]
              rfl
            · simp only [z5, z0, Nat.reduceLT, decide_true, cond_true, ins]
              rfl)
         | (apply zh
            · simp only [z5, z0, Nat.reduceLT, decide_true, cond_true, ins]
              rfl))
      | ((first | apply zb | apply zc)
         · rfl
         · simp only [z5, z0, Nat.reduceLT, decide_true, cond_true, ins]
           rfl)
      | (apply za
         · simp only [go_sem, Nat.reduceEqDiff])
      | (apply z7
         · simp only [go_sem, Nat.reduceEqDiff])
      | (apply zg
         · kernel_rfl
         · kernel_rfl)
      | (simp only [bW, if_true, Nat.reduceEqDiff, if_false])
    all_goals try simp only [go_sem, Nat.reduceEqDiff, bP, Nat.reduceAdd, Nat.reduceLeDiff, List.length_map, Tryd.f8]
    all_goals first | done | rfl | (simp_all []; done) | trace_state

end Go.VS
/-
  VS, part P: what arguments that read as data stand for; what a law's call leaves. (A text of this claim's own; nothing of it is trusted.)
-/
namespace Go.VS
open Go Go.RowKit Go.ChangeShapes Go.WideShapes

def memOf (w : World) : Mem := fun b o => w.cell? ⟨b, o, none⟩
theorem memOf_ok (w : World) : MOK (memOf w) w := fun _ _ _ h => h

/-- Which cells a value of a type may have. -/
def Sh (C : Cfg) : Nat → TypeId → List D → Prop
  | 0, _, _ => False
  | f + 1, t, ds => match C.ty t with
    | some ty => match ty.kind with
      | .int k => ∃ n, ds = [.val (.int k n)] ∧ k.min ≤ n ∧ n ≤ k.max
      | .bool => ∃ b, ds = [B b]
      | .str => ∃ s : ByteArray, ds = [.val (.string s)] ∧ s.size ≤ maxLen
      | .struct fs => ds.length = ty.size ∧ ∀ p ∈ fs, ∃ tf, C.ty p.1 = some tf ∧ Sh C f p.1 ((ds.drop p.2).take tf.size)
      | .arr n e => ds.length = ty.size ∧ ∃ te, C.ty e = some te ∧ ∀ i, i < n → Sh C f e ((ds.drop (i * te.size)).take te.size)
      | .slice e => ds = [.sl true [] 0 none] ∨ ∃ els te, C.ty e = some te ∧ ds = [.sl false els te.size none] ∧ els.length ≤ maxLen ∧
          ∀ d ∈ els, Sh C f e d.cells ∧ (te.isAgg = true → d = .agg d.cells) ∧ (te.isAgg = false → d.cells = [d])
      | _ => False
    | none => False
/-- Types without slices. -/
def flatT (C : Cfg) : Nat → TypeId → Bool
  | 0, _ => false
  | f + 1, t => match C.ty t with
    | some ty => match ty.kind with
      | .int _ => true
      | .bool => true
      | .str => true
      | .struct fs => fs.all fun p => flatT C f p.1
      | .arr _ e => flatT C f e
      | _ => false
    | none => false
/-- Types with slices whose elements have none. -/
def topT (C : Cfg) : Nat → TypeId → Bool
  | 0, _ => false
  | f + 1, t => match C.ty t with
    | some ty => match ty.kind with
      | .int _ => true
      | .bool => true
      | .str => true
      | .struct fs => fs.all fun p => topT C f p.1
      | .arr _ e => topT C f e
      | .slice e => flatT C f e
      | _ => false
    | none => false
theorem flat_top {C : Cfg} : ∀ {f : Nat} {t : TypeId}, flatT C f t = true → topT C f t = true
  | 0, _, h => by cases h
  | f + 1, t, h => by
    unfold flatT at h; unfold topT
    split at h
    · rename_i ty ht
      try rw [ht]
      try simp only []
      cases hk : ty.kind <;> rw [hk] at h <;> simp only [] at h ⊢ <;> (try (cases h; done))
      · exact flat_top h
      · simp only [List.all_eq_true] at h ⊢
        exact fun p hp => flat_top (h p hp)
    · cases h

def plainCells (cs : List Value) : Prop := ∀ v ∈ cs, ∀ a l c, v = .slice (some a) l c → a.spot = none

theorem cellsOf_of {P : Program} {t : TypeId} {ty : Ty} (h : tyOf P t = some ty) : P.cellsOf t = ty.size := by
  obtain ⟨i, d, hi, hd, hz, hk, hs, hb⟩ := tyOf_spec h
  simp [Program.cellsOf, hi, hs]

theorem list_parts {α : Type} (l : List α) (n k : Nat) (h : l.length = n * k) : l = (List.range n).flatMap fun i => (l.drop (i * k)).take k := by
  induction n generalizing l with
  | zero => simp at h ⊢; exact h
  | succ n ih =>
    rw [List.range_succ_eq_map, List.flatMap_cons]
    simp only [Nat.zero_mul, List.drop_zero, List.flatMap_map]
    have hl : (l.drop k).length = n * k := by rw [List.length_drop, h, Nat.add_mul]; omega
    have e := ih (l.drop k) hl
    have : (List.range n).flatMap (fun i => ((l.drop k).drop (i * k)).take k) = (List.range n).flatMap (fun i => (l.drop ((i + 1) * k)).take k) := by
      congr 1; funext i; rw [List.drop_drop]; congr 2; rw [Nat.add_mul]; omega
    rw [this] at e
    calc l = l.take k ++ l.drop k := (List.take_append_drop k l).symm
      _ = _ := by rw [← e]

/-- Parts that stand for parts, put together. -/
theorem zB.join {M : Mem} {Q : Nat → List D → Prop} : ∀ (n : Nat) (F : Nat → List Value), (∀ i, i < n → ∃ ds, zB M noLoc ds (F i) ∧ Q i ds) →
    ∃ G : Nat → List D, zB M noLoc ((List.range n).flatMap G) ((List.range n).flatMap F) ∧ ∀ i, i < n → zB M noLoc (G i) (F i) ∧ Q i (G i) := by
  intro n F h
  obtain ⟨G, hG⟩ := Go.Deep.choose_lt (α := List D) (p := fun i ds => zB M noLoc ds (F i) ∧ Q i ds) h
  refine ⟨G, ?_, hG⟩
  have : ∀ l : List Nat, (∀ i ∈ l, i < n) → zB M noLoc (l.flatMap G) (l.flatMap F) := by
    intro l
    induction l with
    | nil => intro _; simp [zB]
    | cons a l ih =>
      intro hl
      simp only [List.flatMap_cons]
      exact zB.append (hG a (hl a (by simp))).1 (ih fun i hi => hl i (List.mem_cons_of_mem _ hi))
  exact this _ fun i hi => by simpa using hi
theorem flatMap_part {α : Type} (n : Nat) (G : Nat → List α) (k : Nat) (h : ∀ i, i < n → (G i).length = k) (i : Nat) (hi : i < n) : (((List.range n).flatMap G).drop (i * k)).take k = G i := by
  induction n generalizing i G with
  | zero => omega
  | succ n ih =>
    rw [List.range_succ_eq_map, List.flatMap_cons, List.flatMap_map]
    have h0 := h 0 (by omega)
    cases i with
    | zero => simp [← h0]
    | succ i =>
      rw [List.drop_append, List.drop_eq_nil_of_le (by rw [h0, Nat.add_mul]; omega), List.nil_append, h0]
      have : (i + 1) * k - k = i * k := by rw [Nat.add_mul]; omega
      rw [this]
      exact ih (fun i => G (i + 1)) (fun i hi => h (i + 1) (by omega)) i (by omega)

/-- The fields of a struct cover its cells, one behind the other. -/
def rowed : Nat → List (Nat × Nat) → Option Nat
  | o, [] => some o
  | o, (off, size) :: r => if off = o then rowed (o + size) r else none
def rowedT (C : Cfg) : Nat → TypeId → Bool
  | 0, _ => false
  | f + 1, t => match C.ty t with
    | some ty => match ty.kind with
      | .int _ => ty.size == 1
      | .bool => ty.size == 1
      | .str => ty.size == 1
      | .slice e => ty.size == 1 && (match C.ty e with | some te => rowedT C f e && decide (0 < te.size) | none => false)
      | .struct fs => (fs.all fun p => rowedT C f p.1) && (match placesOf C fs with | some pl => rowed 0 pl == some ty.size | none => false)
      | .arr n e => rowedT C f e && (match C.ty e with | some te => ty.size == n * te.size | none => false)
      | _ => false
    | none => false

theorem rowed_parts {M : Mem} {cs : List Value} : ∀ (l : List (Nat × Nat)) (o n : Nat), rowed o l = some n → n ≤ cs.length → ∀ {Q : Nat → List D → Prop},
    (∀ i p, l[i]? = some p → ∃ ds, zB M noLoc ds ((cs.drop p.1).take p.2) ∧ Q i ds) →
    ∃ ds, zB M noLoc ds ((cs.drop o).take (n - o)) ∧ ds.length = n - o ∧ o ≤ n ∧ ∀ i p, l[i]? = some p → o ≤ p.1 ∧ Q i ((ds.drop (p.1 - o)).take p.2)
  | [], o, n, h, hn, Q, _ => by
    simp only [rowed, Option.some.injEq] at h; subst h
    exact ⟨[], by simp [zB], by simp, Nat.le_refl _, by simp⟩
  | (off, size) :: r, o, n, h, hn, Q, hq => by
    simp only [rowed] at h
    split at h
    · rename_i ho; subst ho
      obtain ⟨d0, h1, h2⟩ := hq 0 (off, size) rfl
      obtain ⟨ds, k1, k2, k3, k4⟩ := rowed_parts r (off + size) n h hn (Q := fun i => Q (i + 1)) (fun i p hp => hq (i + 1) p (by simpa using hp))
      have hl : d0.length = size := by rw [← h1.length, List.length_take, List.length_drop]; omega
      refine ⟨d0 ++ ds, ?_, by simp [hl, k2]; omega, by omega, fun i p hp => ?_⟩
      · have e : (cs.drop off).take (n - off) = (cs.drop off).take size ++ (cs.drop (off + size)).take (n - (off + size)) := by
          rw [show n - off = size + (n - (off + size)) by omega, List.take_add, List.drop_drop]
        rw [e]; exact h1.append k1
      · cases i with
        | zero => simp at hp; subst hp; simp [← hl]; simpa [hl] using h2
        | succ i =>
          obtain ⟨q1, q2⟩ := k4 i p (by simpa using hp)
          refine ⟨by omega, ?_⟩
          rw [List.drop_append, List.drop_eq_nil_of_le (by omega), List.nil_append, hl, show p.1 - off - size = p.1 - (off + size) by omega]
          exact q2
    · cases h

section
variable {H : Type} {enc : TypeId × Value → H} {C : Cfg} {w : World} {base : Nat} {sp : Nat → Bool} {held : Bool}

theorem placesOf_get : ∀ {fs : List (TypeId × Nat)} {pl : List (Nat × Nat)}, placesOf C fs = some pl → fs.length = pl.length ∧ ∀ (i : Nat) (p : Nat × Nat), pl[i]? = some p → ∃ t ty, fs[i]? = some (t, p.1) ∧ C.ty t = some ty ∧ ty.size = p.2
  | [], pl, h => by simp [placesOf] at h; subst h; simp
  | (t, off) :: r, pl, h => by
    simp only [placesOf] at h
    split at h
    · rename_i ty l h1 h2
      cases h
      obtain ⟨k1, k2⟩ := placesOf_get h2
      refine ⟨by simp [k1], fun i p hp => ?_⟩
      cases i with
      | zero => simp at hp; subst hp; exact ⟨t, ty, by simp, h1, rfl⟩
      | succ i => obtain ⟨t', ty', a, b, c⟩ := k2 i p (by simpa using hp); exact ⟨t', ty', by simpa using a, b, c⟩
    · cases h

theorem fieldsOf_get {fs : Array Field} {i : Nat} {p : TypeId × Nat} (h : (fs.toList.map fun f => (f.type, f.offset))[i]? = some p) : ∃ f : Field, fs[i]? = some f ∧ f.type = p.1 ∧ f.offset = p.2 := by
  rw [List.getElem?_map] at h
  cases hf : fs.toList[i]? with
  | none => rw [hf] at h; cases h
  | some f => rw [hf] at h; cases h; exact ⟨f, by simpa using hf, rfl, rfl⟩

/-- What reads as data has a deep value. -/
theorem trod_rep (hC : ∀ t ty, C.ty t = some ty → tyOf C.P t = some ty) : ∀ (f n : Nat) (t : TypeId) (cs : List Value) (x : DataW H × List MemPlace),
    DataW.trod enc C.P w base sp held n t cs = some x → topT C f t = true → rowedT C f t = true → (plainCells cs ∨ flatT C f t = true) →
    ∃ ds, zB (memOf w) noLoc ds cs ∧ Sh C f t ds
  | 0, _, _, _, _, _, h, _, _ => by cases h
  | f + 1, n, t, cs, x, h, ht, hw, hp => by
    unfold topT at ht
    split at ht
    case h_2 => cases ht
    rename_i ty hty
    have hto := hC _ _ hty
    obtain ⟨i, d, hi, hd, hz, hk, hs, hb⟩ := tyOf_spec hto
    unfold rowedT at hw
    rw [hty] at hw; simp only [] at hw
    unfold Sh
    rw [hty]; simp only []
    have hp' : plainCells cs ∨ (match ty.kind with | .int _ => true | .bool => true | .str => true | .struct fs => fs.all (fun p => flatT C f p.1) | .arr _ e => flatT C f e | _ => false) = true := by
      rcases hp with hp | hp
      · exact .inl hp
      · unfold flatT at hp; rw [hty] at hp; exact .inr hp
    clear hp
    cases d <;> simp only [tkOf] at hk <;> rw [hk] at ht hw hp' ⊢ <;> simp only [] at ht hw hp' ⊢ <;> (try (cases ht; done))
    case bool =>
      obtain ⟨b, rfl, _⟩ := DataW.trod_bool hd h
      exact ⟨[B b], by simp [zB, Rep], b, rfl⟩
    case int k =>
      obtain ⟨m, rfl, _, hwf⟩ := DataW.trod_int hd h
      simp only [Lit.wf, Bool.and_eq_true, decide_eq_true_eq] at hwf
      exact ⟨[.val (.int k m)], by simp [zB, Rep], m, rfl, hwf⟩
    case string =>
      obtain ⟨s, rfl, _, hsz⟩ := DataW.trod_string hd h
      exact ⟨[.val (.string s)], by simp [zB, Rep], s, rfl, hsz⟩
    case struct fs =>
      obtain ⟨xs, m, rfl, _, hl, hxl, hf⟩ := DataW.trod_struct hd h
      rw [cellsOf_of hto] at hl
      simp only [Bool.and_eq_true] at hw
      obtain ⟨hw1, hw2⟩ := hw
      split at hw2
      case h_2 => cases hw2
      rename_i pl hpl
      have hrow : rowed 0 pl = some ty.size := by simpa using hw2
      obtain ⟨hlen, hget⟩ := placesOf_get hpl
      obtain ⟨ds, k1, k2, _, k4⟩ := rowed_parts (M := memOf w) (cs := cs) pl 0 ty.size hrow (by omega) (Q := fun i ds => ∃ p, (fs.toList.map fun f => (f.type, f.offset))[i]? = some p ∧ Sh C f p.1 ds) (fun i p hp0 => by
        obtain ⟨t', ty', a, b, c⟩ := hget i p hp0
        obtain ⟨fd, e1, e2, e3⟩ := fieldsOf_get a
        simp only [] at e2 e3
        have hmem := List.mem_of_getElem? a
        simp only [List.all_eq_true] at ht hw1
        have hx := hf i fd e1
        have hil : i < xs.length := by rw [hxl]; exact (Array.getElem?_eq_some_iff.1 e1).1
        rw [List.getElem?_eq_getElem hil, e2, e3, cellsOf_of (hC _ _ b), c] at hx
        obtain ⟨ds, q1, q2⟩ := trod_rep hC f m _ _ _ hx (ht _ hmem) (hw1 _ hmem) (by
          rcases hp' with hp | hp
          · exact .inl fun v hv => hp v (List.mem_of_mem_drop (List.mem_of_mem_take hv))
          · simp only [List.all_eq_true] at hp; exact .inr (hp _ hmem))
        exact ⟨ds, q1, _, a, q2⟩)
      simp only [List.drop_zero, Nat.sub_zero] at k1 k2 k4
      rw [← hl, List.take_length] at k1
      refine ⟨ds, k1, k2, fun p hpm => ?_⟩
      obtain ⟨i, hi'⟩ := List.mem_iff_getElem?.1 hpm
      have hil : i < pl.length := by rw [← hlen]; exact (List.getElem?_eq_some_iff.1 hi').1
      obtain ⟨t', ty', a, b, c⟩ := hget i pl[i] (List.getElem?_eq_getElem hil)
      rw [hi'] at a; cases a
      obtain ⟨_, p', q1, q2⟩ := k4 i pl[i] (List.getElem?_eq_getElem hil)
      rw [hi'] at q1; cases q1
      exact ⟨ty', b, by rw [c]; exact q2⟩
    case array m e =>
      obtain ⟨xs, m', rfl, _, hl, hxl, hf⟩ := DataW.trod_array hd h
      rw [cellsOf_of hto] at hl
      simp only [Bool.and_eq_true] at hw
      obtain ⟨hw1, hw2⟩ := hw
      split at hw2
      case h_2 => cases hw2
      rename_i te hte
      have hsz : ty.size = m * te.size := by simpa using hw2
      have hce := cellsOf_of (hC _ _ hte)
      have hpart := list_parts cs m te.size (by rw [hl, hsz])
      obtain ⟨G, g1, g2⟩ := zB.join (M := memOf w) (Q := fun _ ds => Sh C f e ds) m (fun i => (cs.drop (i * te.size)).take te.size) (fun i hi => by
        have hx := hf i hi
        rw [List.getElem?_eq_getElem (by omega), hce] at hx
        exact trod_rep hC f m' _ _ _ hx ht hw1 (by
          rcases hp' with hp | hp
          · exact .inl fun v hv => hp v (List.mem_of_mem_drop (List.mem_of_mem_take hv))
          · exact .inr hp))
      rw [← hpart] at g1
      have hGl : ∀ i, i < m → (G i).length = te.size := by
        intro i hi
        rw [← (g2 i hi).1.length, List.length_take, List.length_drop, hl, hsz]
        have : (i + 1) * te.size ≤ m * te.size := Nat.mul_le_mul_right _ hi
        rw [Nat.add_mul] at this; omega
      refine ⟨_, g1, by rw [← g1.length]; exact hl, te, hte, fun i hi => ?_⟩
      rw [flatMap_part m G te.size hGl i hi]
      exact (g2 i hi).2
    case slice e =>
      simp only [Bool.and_eq_true] at hw
      obtain ⟨_, hw2⟩ := hw
      split at hw2
      case h_2 => cases hw2
      rename_i te hte
      simp only [Bool.and_eq_true, decide_eq_true_eq] at hw2
      obtain ⟨hw2, hpos⟩ := hw2
      have hce := cellsOf_of (hC _ _ hte)
      rcases Go.Deep.open_slice hd h with ⟨rfl, _⟩ | ⟨a, len, cap, m, n', Dd, Pl, rfl, hb, hl, hm, hmm, _, hx⟩
      · exact ⟨[.sl true [] 0 none], by simp [zB, Rep], .inl rfl⟩
      · have hlm : len ≤ m := by rw [hmm]; split <;> omega
        have hsp : a.spot = none := by
          rcases hp' with hp | hp
          · exact hp _ (by simp) a len cap rfl
          · cases hp
        obtain ⟨b, o, s⟩ := a
        simp only [] at hsp; subst hsp
        obtain ⟨G, hG⟩ := Go.Deep.choose_lt (α := D) (p := fun i d => (∃ u, Rep (memOf w) noLoc d u ∧ u.cells.size = te.size ∧ MemAt (memOf w) b (o + i * te.size) u.cells) ∧ Sh C f e d.cells ∧ (te.isAgg = true → d = .agg d.cells) ∧ (te.isAgg = false → d.cells = [d])) (n := len) (fun i hi => by
          obtain ⟨cs', c1, c2⟩ := hx i (by omega)
          obtain ⟨_, c3, c4⟩ := World.cells?_some c1
          obtain ⟨ds, q1, q2⟩ := trod_rep hC f n' e cs' _ c2 (flat_top ht) hw2 (.inr ht)
          rw [hce] at c3 c4
          have hM : MemAt (memOf w) b (o + i * te.size) cs'.toArray := by
            intro j u hu
            have hj : j < te.size := by
              have := (Array.getElem?_eq_some_iff.1 hu).1; simpa [c3] using this
            have := c4 j hj
            rw [addr_add, addr_add] at this
            unfold memOf
            rw [this]; simpa using hu
          cases hag : te.isAgg with
          | true =>
            refine ⟨.agg ds, ⟨.agg cs'.toArray, ?_, by simpa [Value.cells] using c3, hM⟩, q2, fun _ => rfl, fun h => by simp at h⟩
            simp only [Rep]; exact ⟨_, rfl, by simpa using q1⟩
          | false =>
            -- one cell
            obtain ⟨i2, d2, _, hd2, _, hk2, _, _⟩ := tyOf_spec (hC _ _ hte)
            have h1 : te.size = 1 ∧ ∃ d v, ds = [d] ∧ d.cells = [d] ∧ cs' = [v] ∧ v.cells = #[v] := by
              cases f with
              | zero => cases ht
              | succ f =>
                unfold flatT at ht; unfold rowedT at hw2; unfold Sh at q2
                rw [hte] at ht hw2 q2; simp only [] at ht hw2 q2
                cases d2 <;> simp only [tkOf] at hk2 <;> rw [hk2] at ht hw2 q2 <;> simp only [] at ht hw2 q2 <;> (try (cases ht; done))
                · obtain ⟨b', rfl⟩ := q2
                  simp only [zB, Rep] at q1
                  obtain ⟨v, r, rfl, rfl, rfl⟩ := q1
                  exact ⟨by simpa using hw2, _, _, rfl, rfl, rfl, rfl⟩
                · obtain ⟨z, rfl, _⟩ := q2
                  simp only [zB, Rep] at q1
                  obtain ⟨v, r, rfl, rfl, rfl⟩ := q1
                  exact ⟨by simpa using hw2, _, _, rfl, rfl, rfl, rfl⟩
                · obtain ⟨z, rfl, _⟩ := q2
                  simp only [zB, Rep] at q1
                  obtain ⟨v, r, rfl, rfl, rfl⟩ := q1
                  exact ⟨by simpa using hw2, _, _, rfl, rfl, rfl, rfl⟩
                · simp [Ty.isAgg, hk2] at hag
                · simp [Ty.isAgg, hk2] at hag
            obtain ⟨hsz, dd, v, rfl, hdc, rfl, hvc⟩ := h1
            simp only [zB] at q1
            obtain ⟨v', r, e1, q1, rfl⟩ := q1
            cases e1
            refine ⟨dd, ⟨v, q1, by rw [hvc, hsz]; rfl, by rw [hvc]; exact hM⟩, by rw [hdc]; exact q2, fun h => by simp at h, fun _ => hdc⟩)
        refine ⟨[.sl false ((List.range len).map G) te.size none], ?_, .inr ⟨_, te, hte, rfl, by simp; omega, fun d hd' => ?_⟩⟩
        · simp only [zB, Rep]
          refine ⟨_, [], rfl, ⟨by simp, fun _ => ⟨b, o, cap, by simp, by simpa using hl, hm, by simp, RepE.ofGet fun i d hd' => ?_⟩⟩, rfl⟩
          rw [List.getElem?_map] at hd'
          have hi' : i < len := by
            rcases Nat.lt_or_ge i len with h | h
            · exact h
            · rw [List.getElem?_eq_none (by simpa using h)] at hd'; cases hd'
          rw [List.getElem?_range hi'] at hd'; cases hd'
          exact (hG i hi').1
        · obtain ⟨i, hi', rfl⟩ := List.mem_map.1 hd'
          exact (hG i (by simpa using hi')).2

/-- An argument. -/
theorem plain_arg {P : Program} {r : Reach} {base : Nat} {t : TypeId} {v : Value} (h : Value.okWide P w r base t v) : plainCells v.cells.toList := by
  have key : ∀ u x, Cell.okWide P w r base u x → ∀ a l c, x = .slice (some a) l c → a.spot = none := by
    rintro u x hx a l c rfl
    unfold Cell.okWide at hx
    split at hx <;> try (rename_i h1 h2; cases h2; done)
    unfold Cell.ok at hx
    split at hx <;> try (rename_i h1 h2; cases h2; done)
    · rename_i h1 h2
      cases h2
      exact hx.2.2.2.1
    · cases hx
  unfold Value.okWide at h
  split at h
  · obtain ⟨cs, rfl, _, ts, _, _, hc⟩ := h
    intro x hx
    obtain ⟨i, hi⟩ := List.mem_iff_getElem?.1 hx
    obtain ⟨u, _, hu⟩ := hc i x (by simpa [Value.cells] using hi)
    exact key u x hu
  · obtain ⟨cs, rfl, _, ts, _, _, hc⟩ := h
    intro x hx
    obtain ⟨i, hi⟩ := List.mem_iff_getElem?.1 hx
    obtain ⟨u, _, hu⟩ := hc i x (by simpa [Value.cells] using hi)
    exact key u x hu
  · intro x hx a l c e
    have hv : x = v ∨ ∃ cs, v = .agg cs := by
      cases v <;> first | exact .inr ⟨_, rfl⟩ | (left; simpa [Value.cells] using hx)
    rcases hv with rfl | ⟨cs, rfl⟩
    · exact key t x h a l c e
    · exfalso
      unfold Cell.okWide at h
      split at h <;> try (rename_i h1 h2; cases h2; done)
      unfold Cell.ok at h
      split at h <;> first | (rename_i h1 h2; cases h2; done) | cases h
end
end Go.VS
/-
  VS, part P2: what a law's call leaves, as its row says it. (A text of this claim's own; nothing of it is trusted.)
-/
namespace Go.VS
open Go Go.RowKit Go.ChangeShapes Go.WideShapes

section
variable {H : Type} {enc : TypeId × Value → H} {P : Program}
theorem trodAll_carry {w w' : World} {base : Nat} {sp : Nat → Bool} {held : Bool} : ∀ {ts : List TypeId} {vs : List Value} {ds : List (DataW H)} {ps : List MemPlace}, DataW.TrodAll enc P w base sp held ts vs ds ps → (∀ p ∈ ps, w.sameAt w' p) → DataW.TrodAll enc P w' base sp held ts vs ds ps
  | [], [], [], _, h, _ => h
  | _ :: _, _ :: _, _ :: _, _, ⟨p, q, ⟨n, h1⟩, h2, e⟩, hs => ⟨p, q, ⟨n, DataW.trod_carry n _ _ _ h1 (fun x hx => hs x (by rw [e]; exact List.mem_append_left _ hx))⟩, trodAll_carry h2 (fun x hx => hs x (by rw [e]; exact List.mem_append_right _ hx)), e⟩
theorem sameAt_of {w w' : World} (h : ∀ b, b < w.heap.size → w'.heap[b]? = w.heap[b]?) : ∀ p : MemPlace, p.block < w.heap.size → w.sameAt w' p
  | .cell b off, hp => by
    show w'.cell? ⟨b, off, none⟩ = w.cell? ⟨b, off, none⟩
    unfold World.cell?
    rw [h b hp]
  | .map b, hp => h b hp
theorem post_same {f : Func} {s : ChangeSpec} {apart fresh handsOn again : Bool} {W W' : World} {args : Array Value} {v : Value} {ds gs : List (DataW H)} {before pa pv : List MemPlace}
    (hW : DataW.Whole enc P f.params.toList s.vars apart W args.toList ds gs before)
    (hres : ∀ (b : Nat) (sp : Nat → Bool) (hd : Bool), DataW.TrodAll enc P W' b sp hd f.resultTypes.toList (v.resultList f.resultTypes.size) (s.fn H (ds ++ gs)).results [])
    (hargs : ∀ sp : Nat → Bool, (∀ p ∈ before, sp p.block = true) → DataW.TrodAll enc P W' 0 sp true f.params.toList args.toList (s.fn H (ds ++ gs)).args pa)
    (hvars : ∀ sp : Nat → Bool, (∀ p ∈ before, sp p.block = true) → DataW.TrodVars enc P W' sp s.vars (s.fn H (ds ++ gs)).vars pv)
    (hps : before = pa ++ pv) (hk : W.keptBut W' (· ∈ before)) (hfz : ∀ p ∈ before, ∀ b off, p = .cell b off → W'.frozen? ⟨b, off, none⟩ = W.frozen? ⟨b, off, none⟩)
    (hok : ∀ (j : Nat) (t : TypeId) (r : Value), f.resultTypes[j]? = some t → (v.resultList f.resultTypes.size)[j]? = some r → Value.okWide P W' .any 0 t r) :
    s.post enc P f apart fresh handsOn again W args v W' := by
  have hold : ∀ p ∈ before, (fun b => decide (b < W.heap.size)) p.block = true := fun p hp => by simpa using hW.lt p hp
  refine ⟨ds, gs, before, [], pa, pv, hW, hres _ _ _, hargs _ hold, hvars _ hold, World.keptBut_mono (fun p hp => ⟨hp, ?_⟩) hk, fun _ => ?_⟩
  · rw [hps, List.mem_append] at hp
    exact Or.inr hp
  · obtain ⟨_, _, _, _, _, hz, hn⟩ := hW
    refine ⟨hok, _, _, ([] ++ pa) ++ pv, ⟨[] ++ pa, pv, trodAll_append (hargs _ (fun _ _ => rfl)) (hres _ _ _), hvars _ (fun _ _ => rfl), rfl, ?_, ?_⟩, ?_⟩
    · intro b off hp
      have hp' : MemPlace.cell b off ∈ before := by rw [hps]; simpa using hp
      rw [hfz _ hp' b off rfl]
      exact hz b off hp'
    · intro ha
      have := hn ha
      rw [hps] at this
      simpa using this
    · intro p hp _
      rw [hps]
      simpa using hp

theorem law_post {C : Cfg} (hC : CfgOK C) (hX : ExtOK C) (hl : laidOutB C.P = true) (hm : mapsRowed C.P = true) (hz : ∀ t e, t < C.P.types.size → C.P.underlying t = some (.slice e) → 0 < C.P.cellsOf e)
    {K : FuncId} {dsD : List D} (hpure : (lim C).pure K dsD = some (B true)) {W : World} {args : Array Value} (hrep : zB (memOf W) noLoc dsD args.toList) (hG : GlobOK C (memOf W))
    {f : Func} {s : ChangeSpec} {apart fresh handsOn again : Bool} {ds gs : List (DataW H)} {before : List MemPlace}
    (hW : DataW.Whole enc C.P f.params.toList s.vars apart W args.toList ds gs before) (hv : s.vars = [])
    (hfn : s.fn H ds = { results := [.lit (.bool true)], args := ds }) {tb : TypeId} (hres : f.resultTypes = #[tb]) (htb : C.P.underlying tb = some .bool)
    (hts : ∀ t ∈ f.params.toList, t < C.P.types.size) :
    Calls C.P K args W fun e W' => ∃ v, e = .returned v ∧ s.post enc C.P f apart fresh handsOn again W args v W' := by
  refine (lim_sound hC hX hpure (memOf W) W args (memOf_ok W) hG hrep).mono ?_
  rintro e W' ⟨v, M', rfl, k1, k2, k3, k4, k5, k6, k7, k8, k9⟩
  simp only [Rep] at k3; subst k3
  have hW' := hW
  obtain ⟨p, q, hA, hVars, rfl, hnf, hnd⟩ := hW'
  rw [hv] at hVars
  obtain ⟨rfl, rfl⟩ : gs = [] ∧ q = [] := by
    cases gs with
    | nil => exact ⟨rfl, hVars⟩
    | cons g gs => cases hVars
  have hlt := hW.lt
  refine ⟨_, rfl, post_same (pa := p) (pv := []) hW ?_ ?_ ?_ rfl ?_ ?_ ?_⟩
  · intro b sp hd
    rw [List.append_nil, hfn, hres]
    refine ⟨[], [], ⟨1, ?_⟩, rfl, rfl⟩
    simp [DataW.trod, htb, Value.cells]
  · intro sp hsp
    rw [List.append_nil, hfn]
    refine trodAll_carry (DataW.TrodAll.respare (T := (· < C.P.types.size)) (kids_rows hl hm) hz hts hA (fun p hp => hsp p (by simpa using hp))) (fun p hp => sameAt_of k8 p (hlt p (by simpa using hp)))
  · intro sp hsp
    rw [List.append_nil, hfn, hv]; rfl
  · refine ⟨k4, k6, fun i hi => ?_⟩
    rw [k8 i hi]
    cases hh : W.heap[i]? with
    | none => trivial
    | some o => cases o <;> simp
  · rintro _ hp b off rfl
    unfold World.frozen?
    rw [k8 b (hlt _ hp)]
  · intro j t r h1 h2
    rw [hres] at h1 h2
    cases j with
    | zero =>
      simp at h1; subst h1
      simp [Value.resultList] at h2; subst h2
      simp [Value.okWide, htb, Cell.okWide, Cell.ok]
    | succ j => simp at h1
end
end Go.VS
/-
  The seat's program: its tables are right; its variable; what its arguments stand for. (A text of this claim's own; nothing of it is trusted.)
-/
namespace Go.VS
open Go Go.Proofs Go.RowKit Go.ChangeShapes Go.WideShapes

theorem cfgOK : CfgOK cfg where
  ty := fun _ _ h => tyTab_ok.find h
  fn := fun _ _ h => fnTab_ok.find h
  enter := fun _ _ h => enTab_ok.find h
  mixed := by kernel_rfl
  eqok := fun t h => by
    have h1 : (eqTab.find t).isSome = true := h
    cases hf : eqTab.find t with
    | none => rw [hf] at h1; cases h1
    | some u =>
      have := eqTab_ok.find hf
      unfold eqB at this
      simp only [Bool.and_eq_true, Bool.not_eq_true'] at this
      refine ⟨this.1.1, this.1.2, fun fs hfs f hm => ?_⟩
      have h2 := this.2
      have hfs' : Tryd.prog.underlying t = some (.struct fs) := hfs
      rw [hfs'] at h2
      simp only [List.all_eq_true, bne_iff_ne] at h2
      exact h2 f hm
theorem extOK : ExtOK cfg where
  pure := fun K g args d h => by rw [zj] at h; cases h
  inl := fun K g args objs nxt d objs' nxt' h => by rw [cfg_xinl] at h; cases h
theorem gOne : Tryd.prog.globalNamed "acreage/paper.one" = some 0 := by kernel_rfl
theorem gOneType : (Tryd.prog.globals[0]?).map (·.type) = some 34 := by kernel_rfl
theorem ty34f : ∃ f0 f1 : Field, Tryd.prog.underlying 34 = some (.struct #[f0, f1]) ∧ f0.type = 3 ∧ f1.type = 3 ∧ f0.offset = 0 ∧ f1.offset = 1 := ⟨_, _, Tryd.underlying34, rfl, rfl, rfl, rfl⟩
theorem globOK {W : World} (h : laidMetH Tryd.prog [("acreage/paper.one", YtbndhgnkgoggmaaDoor.Rows.laid_acreage_paper_one)] W) : GlobOK cfg (memOf W) := by
  obtain ⟨ps, ⟨g', t', cs, fuel, p, q, hg', ht', hvar, hd, _, _⟩, _⟩ := h
  obtain rfl := Option.some.inj (gOne.symm.trans hg')
  obtain rfl := Option.some.inj (gOneType.symm.trans ht')
  obtain ⟨f0, f1, hu, a0, a1, b0, b1⟩ := ty34f
  obtain ⟨xs, n, rfl, hx, hl, hxl, hf⟩ := DataW.trod_struct hu hd
  have hc34 : Tryd.prog.cellsOf 34 = 2 := by kernel_rfl
  have hc3 : Tryd.prog.cellsOf 3 = 1 := by kernel_rfl
  rw [hc34] at hl
  have h0 := hf 0 f0 rfl
  have h1 := hf 1 f1 rfl
  rw [a0, b0, hc3] at h0
  rw [a1, b1, hc3] at h1
  have hxs : xs.map (·.1) = [.lit (.int .i64 1), .lit (.int .i64 1)] := by
    have := congrArg Prod.fst hx
    simp [YtbndhgnkgoggmaaDoor.Rows.laid_acreage_paper_one] at this
    exact this.symm
  obtain ⟨x0, x1, rfl⟩ : ∃ x0 x1, xs = [x0, x1] := by
    match xs, hxl with
    | [x0, x1], _ => exact ⟨x0, x1, rfl⟩
  simp at hxs h0 h1
  obtain ⟨v0, v1, hcs⟩ : ∃ v0 v1, cs.toList = [v0, v1] := by
    match hc : cs.toList, (by simpa using hl : cs.toList.length = 2) with
    | [v0, v1], _ => exact ⟨v0, v1, rfl⟩
  rw [hcs] at h0 h1
  obtain ⟨n0, e0, q0, _⟩ := DataW.trod_int Tryd.underlying3 h0
  obtain ⟨n1, e1, q1, _⟩ := DataW.trod_int Tryd.underlying3 h1
  simp at e0 e1
  subst e0 e1
  rw [q0, q1] at hxs
  simp at hxs
  obtain ⟨rfl, rfl⟩ := hxs
  intro g d hgd
  have hgd' : (if g = 0 then some (.agg [I 1, I 1]) else none) = some d := hgd
  split at hgd'
  · rename_i hg; subst hg
    cases hgd'
    refine ⟨.agg cs, ?_, fun j u hu => ?_⟩
    · simp only [Rep]
      exact ⟨cs, rfl, by rw [hcs]; simp [zB, Rep]⟩
    · have := World.var?_cell gOne hvar j
      unfold memOf
      rw [Nat.zero_add, this]
      simpa [Value.cells] using hu
  · cases hgd'

/-! ### arguments -/
set_option maxRecDepth 100000
theorem laid_out : laidOutB Tryd.prog = true := by kernel_rfl
theorem maps_rowed : mapsRowed Tryd.prog = true := by kernel_rfl
theorem sl_full : ∀ t e, t < Tryd.prog.types.size → Tryd.prog.underlying t = some (.slice e) → 0 < Tryd.prog.cellsOf e := slices_full_of Tryd.prog (by kernel_rfl)
section
variable {H : Type} {enc : TypeId × Value → H} {w : World} {base base' : Nat} {sp : Nat → Bool} {held : Bool}
theorem arg_rep {t : TypeId} {v : Value} {d : DataW H} {p : List MemPlace} {r : Reach} (h : DataW.Trod enc Tryd.prog w base sp held t v d p) (hv : Value.okWide Tryd.prog w r base' t v) (ht : topT cfg 8 t = true) (hr : rowedT cfg 8 t = true) :
    ∃ ds, zB (memOf w) noLoc ds v.cells.toList ∧ Sh cfg 8 t ds := by
  obtain ⟨n, hn⟩ := h
  exact trod_rep (C := cfg) (fun t ty h => tyTab_ok.find h) 8 n t _ _ hn ht hr (.inl (plain_arg hv))
end
theorem i64_min : IntKind.i64.min = -9223372036854775808 := by rfl
theorem i64_max : IntKind.i64.max = 9223372036854775807 := by rfl
def R64 (n : Int) : Prop := -9223372036854775808 ≤ n ∧ n ≤ 9223372036854775807
theorem sh_int {f : Nat} {ds : List D} (h : Sh cfg (f + 1) 3 ds) : ∃ n, ds = [I n] ∧ R64 n := by
  simp only [Sh, cfg_ty, cty3, ty3] at h
  obtain ⟨n, h1, h2, h3⟩ := h
  rw [i64_min] at h2
  rw [i64_max] at h3
  exact ⟨n, h1, h2, h3⟩
theorem sh_bool {f : Nat} {ds : List D} (h : Sh cfg (f + 1) 4 ds) : ∃ b, ds = [B b] := by
  simp only [Sh, cfg_ty, cty4, ty4] at h
  exact h
theorem part_one {ds : List D} {k : Nat} {d : D} (h : (ds.drop k).take 1 = [d]) : ds[k]? = some d := by
  have := congrArg (fun l => l[0]?) h
  simpa [List.getElem?_take, List.getElem?_drop] using this
theorem field_int {f k : Nat} {fs : List (TypeId × Nat)} {ds : List D} (hf : ∀ p ∈ fs, ∃ tf, cfg.ty p.1 = some tf ∧ Sh cfg (f + 1) p.1 ((ds.drop p.2).take tf.size)) (hm : (3, k) ∈ fs) : ∃ n, ds[k]? = some (I n) ∧ R64 n := by
  obtain ⟨tf, h1, h2⟩ := hf _ hm
  have : tf = ty3 := by rw [cfg_ty] at h1; exact (Option.some.inj (cty3.symm.trans h1)).symm
  subst this
  obtain ⟨n, h3, h4⟩ := sh_int h2
  exact ⟨n, part_one h3, h4⟩
theorem field_bool {f k : Nat} {fs : List (TypeId × Nat)} {ds : List D} (hf : ∀ p ∈ fs, ∃ tf, cfg.ty p.1 = some tf ∧ Sh cfg (f + 1) p.1 ((ds.drop p.2).take tf.size)) (hm : (4, k) ∈ fs) : ∃ b, ds[k]? = some (B b) := by
  obtain ⟨tf, h1, h2⟩ := hf _ hm
  have : tf = ty4 := by rw [cfg_ty] at h1; exact (Option.some.inj (cty4.symm.trans h1)).symm
  subst this
  obtain ⟨n, h3⟩ := sh_bool h2
  exact ⟨n, part_one h3⟩
end Go.VS
/-
  What the arguments of the laws stand for, type by type. (Printed by gen/q2.py, a program of this claim's own; nothing of it is trusted.)
-/
namespace Go.VS
open Go Go.Proofs
theorem list_eq {α : Type} {l l' : List α} (h : l = l') : l' = l := h.symm
def Mark.R (m : Mark) : Prop := R64 m.sheet ∧ R64 m.axis ∧ R64 m.tru ∧ R64 m.seen ∧ R64 m.err
def Join.R (m : Join) : Prop := R64 m.a ∧ R64 m.b ∧ R64 m.axis ∧ R64 m.seenA ∧ R64 m.errA ∧ R64 m.seenB ∧ R64 m.errB
def F4.R (m : F4) : Prop := R64 m.xn ∧ R64 m.xd ∧ R64 m.yn ∧ R64 m.yd
def Reason.R (m : Reason) : Prop := R64 m.at_
def Paper.R (p : Paper) : Prop := R64 p.sheets ∧ (∀ m ∈ p.marks, m.R) ∧ (∀ m ∈ p.joins, m.R)

theorem sh_mark {f : Nat} {ds : List D} (h : Sh cfg (f + 2) 37 ds) : ∃ a0 a1 a2 a3 a4, ds = [I a0, I a1, I a2, I a3, I a4] ∧ R64 a0 ∧ R64 a1 ∧ R64 a2 ∧ R64 a3 ∧ R64 a4 := by
  rw [Sh, cfg_ty, cty37] at h
  simp only [ty37] at h
  obtain ⟨hl, hf⟩ := h
  obtain ⟨a0, h0, b0⟩ := field_int (k := 0) hf (by simp)
  obtain ⟨a1, h1, b1⟩ := field_int (k := 1) hf (by simp)
  obtain ⟨a2, h2, b2⟩ := field_int (k := 2) hf (by simp)
  obtain ⟨a3, h3, b3⟩ := field_int (k := 3) hf (by simp)
  obtain ⟨a4, h4, b4⟩ := field_int (k := 4) hf (by simp)
  rcases ds with _ | ⟨x0, _ | ⟨x1, _ | ⟨x2, _ | ⟨x3, _ | ⟨x4, _ | ⟨y, r⟩⟩⟩⟩⟩⟩
  all_goals simp at hl
  simp at h0 h1 h2 h3 h4
  refine ⟨a0, a1, a2, a3, a4, by simp [*], b0, b1, b2, b3, b4⟩

theorem sh_join {f : Nat} {ds : List D} (h : Sh cfg (f + 2) 39 ds) : ∃ a0 a1 a2 a3 a4 a5 a6, ds = [I a0, I a1, I a2, I a3, I a4, I a5, I a6] ∧ R64 a0 ∧ R64 a1 ∧ R64 a2 ∧ R64 a3 ∧ R64 a4 ∧ R64 a5 ∧ R64 a6 := by
  rw [Sh, cfg_ty, cty39] at h
  simp only [ty39] at h
  obtain ⟨hl, hf⟩ := h
  obtain ⟨a0, h0, b0⟩ := field_int (k := 0) hf (by simp)
  obtain ⟨a1, h1, b1⟩ := field_int (k := 1) hf (by simp)
  obtain ⟨a2, h2, b2⟩ := field_int (k := 2) hf (by simp)
  obtain ⟨a3, h3, b3⟩ := field_int (k := 3) hf (by simp)
  obtain ⟨a4, h4, b4⟩ := field_int (k := 4) hf (by simp)
  obtain ⟨a5, h5, b5⟩ := field_int (k := 5) hf (by simp)
  obtain ⟨a6, h6, b6⟩ := field_int (k := 6) hf (by simp)
  rcases ds with _ | ⟨x0, _ | ⟨x1, _ | ⟨x2, _ | ⟨x3, _ | ⟨x4, _ | ⟨x5, _ | ⟨x6, _ | ⟨y, r⟩⟩⟩⟩⟩⟩⟩⟩
  all_goals simp at hl
  simp at h0 h1 h2 h3 h4 h5 h6
  refine ⟨a0, a1, a2, a3, a4, a5, a6, by simp [*], b0, b1, b2, b3, b4, b5, b6⟩

theorem sh_ratio {f : Nat} {ds : List D} (h : Sh cfg (f + 2) 34 ds) : ∃ a0 a1, ds = [I a0, I a1] ∧ R64 a0 ∧ R64 a1 := by
  rw [Sh, cfg_ty, cty34] at h
  simp only [ty34] at h
  obtain ⟨hl, hf⟩ := h
  obtain ⟨a0, h0, b0⟩ := field_int (k := 0) hf (by simp)
  obtain ⟨a1, h1, b1⟩ := field_int (k := 1) hf (by simp)
  rcases ds with _ | ⟨x0, _ | ⟨x1, _ | ⟨y, r⟩⟩⟩
  all_goals simp at hl
  simp at h0 h1
  refine ⟨a0, a1, by simp [*], b0, b1⟩

theorem sh_span {f : Nat} {ds : List D} (h : Sh cfg (f + 2) 65 ds) : ∃ a0 a1, ds = [I a0, I a1] ∧ R64 a0 ∧ R64 a1 := by
  rw [Sh, cfg_ty, cty65] at h
  simp only [ty65] at h
  obtain ⟨hl, hf⟩ := h
  obtain ⟨a0, h0, b0⟩ := field_int (k := 0) hf (by simp)
  obtain ⟨a1, h1, b1⟩ := field_int (k := 1) hf (by simp)
  rcases ds with _ | ⟨x0, _ | ⟨x1, _ | ⟨y, r⟩⟩⟩
  all_goals simp at hl
  simp at h0 h1
  refine ⟨a0, a1, by simp [*], b0, b1⟩

theorem sh_reason {f : Nat} {ds : List D} (h : Sh cfg (f + 2) 81 ds) : ∃ a0 a1 a2, ds = [B a0, I a1, B a2] ∧ R64 a1 := by
  rw [Sh, cfg_ty, cty81] at h
  simp only [ty81] at h
  obtain ⟨hl, hf⟩ := h
  obtain ⟨a0, h0⟩ := field_bool (k := 0) hf (by simp)
  obtain ⟨a1, h1, b1⟩ := field_int (k := 1) hf (by simp)
  obtain ⟨a2, h2⟩ := field_bool (k := 2) hf (by simp)
  rcases ds with _ | ⟨x0, _ | ⟨x1, _ | ⟨x2, _ | ⟨y, r⟩⟩⟩⟩
  all_goals simp at hl
  simp at h0 h1 h2
  refine ⟨a0, a1, a2, by simp [*], b1⟩

theorem sh_pair {f : Nat} {ds : List D} (h : Sh cfg (f + 3) 35 ds) : ∃ a0 a1 a2 a3, ds = [I a0, I a1, I a2, I a3] ∧ R64 a0 ∧ R64 a1 ∧ R64 a2 ∧ R64 a3 := by
  rw [Sh, cfg_ty, cty35] at h
  simp only [ty35] at h
  obtain ⟨hl, te, h1, h2⟩ := h
  have : te = ty34 := by exact (Option.some.inj (cty34.symm.trans h1)).symm
  subst this
  obtain ⟨a0, a1, e0, b0, b1⟩ := sh_ratio (h2 0 (by omega))
  obtain ⟨a2, a3, e1, b2, b3⟩ := sh_ratio (h2 1 (by omega))
  rcases ds with _ | ⟨x0, _ | ⟨x1, _ | ⟨x2, _ | ⟨x3, _ | ⟨y, r⟩⟩⟩⟩⟩
  all_goals simp at hl
  simp [ty34] at e0 e1
  exact ⟨a0, a1, a2, a3, by simp [*], b0, b1, b2, b3⟩

theorem sh_marks {f : Nat} {ds : List D} (h : Sh cfg (f + 4) 22 ds) : (∃ (nl : Bool) (l : List Mark), ds = [.sl nl (l.map encM) 5 none] ∧ (nl = true → l = []) ∧ l.length ≤ 9223372036854775807 ∧ (∀ x ∈ l, Mark.R x)) ∨ ds = [.sl true [] 0 none] := by
  rw [Sh, cfg_ty, cty22] at h
  simp only [ty22] at h
  rcases h with h | ⟨els, te, h1, h2, h3, h4⟩
  · exact .inr h
  · have : te = ty37 := by exact (Option.some.inj (cty37.symm.trans h1)).symm
    subst this
    have key : ∀ els : List D, (∀ d ∈ els, Sh cfg (f + 3) 37 d.cells ∧ (ty37.isAgg = true → d = .agg d.cells) ∧ (ty37.isAgg = false → d.cells = [d])) → ∃ l : List Mark, els = l.map encM ∧ ∀ x ∈ l, Mark.R x := by
      intro els
      induction els with
      | nil => intro _; exact ⟨[], rfl, fun x hx => by cases hx⟩
      | cons d els ih =>
        intro hd
        obtain ⟨l, hl, hR⟩ := ih fun d' h' => hd d' (List.mem_cons_of_mem _ h')
        obtain ⟨q1, q2, _⟩ := hd d (by simp)
        have q2 := q2 rfl
        obtain ⟨a0, a1, a2, a3, a4, e, hb⟩ := sh_mark q1
        have hx : d = encM (⟨a0, a1, a2, a3, a4⟩ : Mark) := by rw [q2, e]; rfl
        have hxR : Mark.R (⟨a0, a1, a2, a3, a4⟩ : Mark) := hb
        exact ⟨(⟨a0, a1, a2, a3, a4⟩ : Mark) :: l, by rw [List.map_cons, ← hx, ← hl], fun y hy => by
          rcases List.mem_cons.1 hy with rfl | hy
          · exact hxR
          · exact hR y hy⟩
    obtain ⟨l, rfl, hR⟩ := key els h4
    refine .inl ⟨false, l, h2, by simp, ?_, hR⟩
    simp only [List.length_map, maxLen] at h3
    omega

theorem sh_joins {f : Nat} {ds : List D} (h : Sh cfg (f + 4) 23 ds) : (∃ (nl : Bool) (l : List Join), ds = [.sl nl (l.map encJ) 7 none] ∧ (nl = true → l = []) ∧ l.length ≤ 9223372036854775807 ∧ (∀ x ∈ l, Join.R x)) ∨ ds = [.sl true [] 0 none] := by
  rw [Sh, cfg_ty, cty23] at h
  simp only [ty23] at h
  rcases h with h | ⟨els, te, h1, h2, h3, h4⟩
  · exact .inr h
  · have : te = ty39 := by exact (Option.some.inj (cty39.symm.trans h1)).symm
    subst this
    have key : ∀ els : List D, (∀ d ∈ els, Sh cfg (f + 3) 39 d.cells ∧ (ty39.isAgg = true → d = .agg d.cells) ∧ (ty39.isAgg = false → d.cells = [d])) → ∃ l : List Join, els = l.map encJ ∧ ∀ x ∈ l, Join.R x := by
      intro els
      induction els with
      | nil => intro _; exact ⟨[], rfl, fun x hx => by cases hx⟩
      | cons d els ih =>
        intro hd
        obtain ⟨l, hl, hR⟩ := ih fun d' h' => hd d' (List.mem_cons_of_mem _ h')
        obtain ⟨q1, q2, _⟩ := hd d (by simp)
        have q2 := q2 rfl
        obtain ⟨a0, a1, a2, a3, a4, a5, a6, e, hb⟩ := sh_join q1
        have hx : d = encJ (⟨a0, a1, a2, a3, a4, a5, a6⟩ : Join) := by rw [q2, e]; rfl
        have hxR : Join.R (⟨a0, a1, a2, a3, a4, a5, a6⟩ : Join) := hb
        exact ⟨(⟨a0, a1, a2, a3, a4, a5, a6⟩ : Join) :: l, by rw [List.map_cons, ← hx, ← hl], fun y hy => by
          rcases List.mem_cons.1 hy with rfl | hy
          · exact hxR
          · exact hR y hy⟩
    obtain ⟨l, rfl, hR⟩ := key els h4
    refine .inl ⟨false, l, h2, by simp, ?_, hR⟩
    simp only [List.length_map, maxLen] at h3
    omega

theorem sh_factors {f : Nat} {ds : List D} (h : Sh cfg (f + 4) 27 ds) : (∃ (nl : Bool) (l : List F4), ds = [.sl nl (l.map zM) 4 none] ∧ (nl = true → l = []) ∧ l.length ≤ 9223372036854775807 ∧ (∀ x ∈ l, F4.R x)) ∨ ds = [.sl true [] 0 none] := by
  rw [Sh, cfg_ty, cty27] at h
  simp only [ty27] at h
  rcases h with h | ⟨els, te, h1, h2, h3, h4⟩
  · exact .inr h
  · have : te = ty35 := by exact (Option.some.inj (cty35.symm.trans h1)).symm
    subst this
    have key : ∀ els : List D, (∀ d ∈ els, Sh cfg (f + 3) 35 d.cells ∧ (ty35.isAgg = true → d = .agg d.cells) ∧ (ty35.isAgg = false → d.cells = [d])) → ∃ l : List F4, els = l.map zM ∧ ∀ x ∈ l, F4.R x := by
      intro els
      induction els with
      | nil => intro _; exact ⟨[], rfl, fun x hx => by cases hx⟩
      | cons d els ih =>
        intro hd
        obtain ⟨l, hl, hR⟩ := ih fun d' h' => hd d' (List.mem_cons_of_mem _ h')
        obtain ⟨q1, q2, _⟩ := hd d (by simp)
        have q2 := q2 rfl
        obtain ⟨a0, a1, a2, a3, e, hb⟩ := sh_pair q1
        have hx : d = zM (⟨a0, a1, a2, a3⟩ : F4) := by rw [q2, e]; rfl
        have hxR : F4.R (⟨a0, a1, a2, a3⟩ : F4) := hb
        exact ⟨(⟨a0, a1, a2, a3⟩ : F4) :: l, by rw [List.map_cons, ← hx, ← hl], fun y hy => by
          rcases List.mem_cons.1 hy with rfl | hy
          · exact hxR
          · exact hR y hy⟩
    obtain ⟨l, rfl, hR⟩ := key els h4
    refine .inl ⟨false, l, h2, by simp, ?_, hR⟩
    simp only [List.length_map, maxLen] at h3
    omega

theorem sh_reasons {f : Nat} {ds : List D} (h : Sh cfg (f + 4) 70 ds) : (∃ (nl : Bool) (l : List Reason), ds = [.sl nl (l.map encW) 3 none] ∧ (nl = true → l = []) ∧ l.length ≤ 9223372036854775807 ∧ (∀ x ∈ l, Reason.R x)) ∨ ds = [.sl true [] 0 none] := by
  rw [Sh, cfg_ty, cty70] at h
  simp only [ty70] at h
  rcases h with h | ⟨els, te, h1, h2, h3, h4⟩
  · exact .inr h
  · have : te = ty81 := by exact (Option.some.inj (cty81.symm.trans h1)).symm
    subst this
    have key : ∀ els : List D, (∀ d ∈ els, Sh cfg (f + 3) 81 d.cells ∧ (ty81.isAgg = true → d = .agg d.cells) ∧ (ty81.isAgg = false → d.cells = [d])) → ∃ l : List Reason, els = l.map encW ∧ ∀ x ∈ l, Reason.R x := by
      intro els
      induction els with
      | nil => intro _; exact ⟨[], rfl, fun x hx => by cases hx⟩
      | cons d els ih =>
        intro hd
        obtain ⟨l, hl, hR⟩ := ih fun d' h' => hd d' (List.mem_cons_of_mem _ h')
        obtain ⟨q1, q2, _⟩ := hd d (by simp)
        have q2 := q2 rfl
        obtain ⟨a0, a1, a2, e, hb⟩ := sh_reason q1
        have hx : d = encW (⟨a0, a1, a2⟩ : Reason) := by rw [q2, e]; rfl
        have hxR : Reason.R (⟨a0, a1, a2⟩ : Reason) := hb
        exact ⟨(⟨a0, a1, a2⟩ : Reason) :: l, by rw [List.map_cons, ← hx, ← hl], fun y hy => by
          rcases List.mem_cons.1 hy with rfl | hy
          · exact hxR
          · exact hR y hy⟩
    obtain ⟨l, rfl, hR⟩ := key els h4
    refine .inl ⟨false, l, h2, by simp, ?_, hR⟩
    simp only [List.length_map, maxLen] at h3
    omega

set_option maxRecDepth 100000
/-- A nil slice of whatever size of element is the same value. -/
theorem rep_nil {M : Mem} {m : Loc} {sz : Nat} {v : Value} (h : Rep M m (.sl true [] 0 none) v) : Rep M m (.sl true [] sz none) v := by
  simp only [Rep] at h ⊢
  exact ⟨h.1, by simp⟩
theorem rep_zs {α : Type} {M : Mem} {m : Loc} {nl : Bool} {l : List α} {g : α → D} {k : Nat} {v : Value} (hn : nl = true → l = []) (h : Rep M m (.sl nl (l.map g) k none) v) : Rep M m (.sl nl (l.map g) (zs nl k) none) v := by
  cases nl with
  | false => exact h
  | true => rw [hn rfl] at h ⊢; exact rep_nil (by simp only [Rep] at h ⊢; exact ⟨fun _ => ⟨by simp, (h.1 trivial).2⟩, by simp⟩)
theorem repL_one {M : Mem} {m : Loc} {d : D} {cs : List Value} (h : zB M m [d] cs) : ∃ v, cs = [v] ∧ Rep M m d v := by
  simp only [zB] at h
  obtain ⟨v, r, h1, h2, rfl⟩ := h
  exact ⟨v, h1, h2⟩
section
variable {H : Type} {enc : TypeId × Value → H} {w : World} {base base' : Nat} {sp : Nat → Bool} {held : Bool} {v : Value} {d : DataW H} {p : List MemPlace} {r : Reach}
theorem one_cell {x u : Value} (h : x.cells.toList = [u]) (hp : ∀ cs, x ≠ .agg cs) : x = u := by
  cases x <;> simp [Value.cells] at h <;> first | exact h | exact absurd rfl (hp _)
theorem ok_notAgg {t : TypeId} (hv : Value.okWide Tryd.prog w r base' t v) (hs : ∀ fs, Tryd.prog.underlying t ≠ some (.struct fs)) (ha : ∀ n e, Tryd.prog.underlying t ≠ some (.array n e)) : ∀ cs, v ≠ .agg cs := by
  rintro cs rfl
  unfold Value.okWide at hv
  split at hv
  · rename_i h; exact hs _ h
  · rename_i h; exact ha _ _ h
  · unfold Cell.okWide at hv
    split at hv <;> try (rename_i h1 h2; cases h2; done)
    unfold Cell.ok at hv
    split at hv <;> first | (rename_i h1 h2; cases h2; done) | cases hv
theorem arg_int (h : DataW.Trod enc Tryd.prog w base sp held 3 v d p) (hv : Value.okWide Tryd.prog w r base' 3 v) : ∃ n, v = .int .i64 n ∧ R64 n := by
  obtain ⟨ds, h1, h2⟩ := arg_rep h hv (by kernel_rfl) (by kernel_rfl)
  obtain ⟨n, rfl, hn⟩ := sh_int h2
  obtain ⟨u, e, hu⟩ := repL_one h1
  simp only [Rep] at hu; subst hu
  exact ⟨n, one_cell e (ok_notAgg hv (by rw [Tryd.underlying3]; simp) (by rw [Tryd.underlying3]; simp)), hn⟩
theorem arg_bool (h : DataW.Trod enc Tryd.prog w base sp held 4 v d p) (hv : Value.okWide Tryd.prog w r base' 4 v) : ∃ b, v = .bool b := by
  obtain ⟨ds, h1, h2⟩ := arg_rep h hv (by kernel_rfl) (by kernel_rfl)
  obtain ⟨n, rfl⟩ := sh_bool h2
  obtain ⟨u, e, hu⟩ := repL_one h1
  simp only [Rep] at hu; subst hu
  exact ⟨n, one_cell e (ok_notAgg hv (by rw [Tryd.underlying4]; simp) (by rw [Tryd.underlying4]; simp))⟩
theorem agg_of {t : TypeId} (hv : Value.okWide Tryd.prog w r base' t v) (hs : (∃ fs, Tryd.prog.underlying t = some (.struct fs)) ∨ (∃ n e, Tryd.prog.underlying t = some (.array n e))) : ∃ cs, v = .agg cs := by
  unfold Value.okWide at hv
  rcases hs with ⟨fs, hs⟩ | ⟨n, e, hs⟩ <;> rw [hs] at hv <;> simp only [] at hv <;> obtain ⟨cs, rfl, _⟩ := hv <;> exact ⟨cs, rfl⟩
theorem arg_paper (h : DataW.Trod enc Tryd.prog w base sp held 25 v d p) (hv : Value.okWide Tryd.prog w r base' 25 v) : ∃ q : Paper, Rep (memOf w) noLoc (zt q) v ∧ q.wf ∧ q.R := by
  obtain ⟨ds, h1, h2⟩ := arg_rep h hv (by kernel_rfl) (by kernel_rfl)
  obtain ⟨cs, rfl⟩ := agg_of hv (.inl ⟨_, Tryd.underlying25⟩)
  rw [Sh, cfg_ty, cty25] at h2
  simp only [ty25] at h2
  obtain ⟨hl, hf⟩ := h2
  obtain ⟨n, hn, hR⟩ := field_int (k := 0) hf (by simp)
  obtain ⟨t1, e1, s1⟩ := hf (22, 1) (by simp)
  obtain ⟨t2, e2, s2⟩ := hf (23, 2) (by simp)
  have : t1 = ty22 := by exact (Option.some.inj (cty22.symm.trans e1)).symm
  subst this
  have : t2 = ty23 := by exact (Option.some.inj (cty23.symm.trans e2)).symm
  subst this
  rcases ds with _ | ⟨x0, _ | ⟨x1, _ | ⟨x2, _ | ⟨y, rr⟩⟩⟩⟩
  all_goals simp at hl
  simp at hn
  subst hn
  simp [ty22] at s1
  simp [ty23] at s2
  simp only [Value.cells, zB] at h1
  obtain ⟨v0, r0, hc0, q0, v1, r1, rfl, q1, v2, r2, rfl, q2, rfl⟩ := h1
  have m1 : ∃ (nl : Bool) (l : List Mark), Rep (memOf w) noLoc (.sl nl (l.map encM) (zs nl 5) none) v1 ∧ (nl = true → l = []) ∧ l.length ≤ 9223372036854775807 ∧ ∀ x ∈ l, x.R := by
    rcases sh_marks s1 with ⟨nl, l, e, a, b, c⟩ | e <;> simp at e <;> subst e
    · exact ⟨nl, l, rep_zs a q1, a, b, c⟩
    · exact ⟨true, [], rep_zs (by simp) (rep_nil q1), by simp, by simp, fun x hx => by cases hx⟩
  have m2 : ∃ (nl : Bool) (l : List Join), Rep (memOf w) noLoc (.sl nl (l.map encJ) (zs nl 7) none) v2 ∧ (nl = true → l = []) ∧ l.length ≤ 9223372036854775807 ∧ ∀ x ∈ l, x.R := by
    rcases sh_joins s2 with ⟨nl, l, e, a, b, c⟩ | e <;> simp at e <;> subst e
    · exact ⟨nl, l, rep_zs a q2, a, b, c⟩
    · exact ⟨true, [], rep_zs (by simp) (rep_nil q2), by simp, by simp, fun x hx => by cases hx⟩
  obtain ⟨nm, lm, a1, a2, a3, a4⟩ := m1
  obtain ⟨nj, lj, b1, b2, b3, b4⟩ := m2
  refine ⟨⟨n, nm, lm, nj, lj⟩, ?_, ⟨a2, b2, a3, b3⟩, hR, a4, b4⟩
  simp only [Rep, zt] at *
  exact ⟨cs, rfl, by rw [hc0]; simp only [zB]; exact ⟨_, _, rfl, by simpa [Rep] using q0, _, _, rfl, by simpa only [Rep] using a1, _, _, rfl, by simpa only [Rep] using b1, rfl⟩⟩
theorem arg_factors (h : DataW.Trod enc Tryd.prog w base sp held 27 v d p) (hv : Value.okWide Tryd.prog w r base' 27 v) : ∃ (nl : Bool) (l : List F4), Rep (memOf w) noLoc (.sl nl (l.map zM) 4 none) v ∧ (nl = true → l = []) ∧ l.length ≤ 9223372036854775807 ∧ ∀ x ∈ l, x.R := by
  obtain ⟨ds, h1, h2⟩ := arg_rep h hv (by kernel_rfl) (by kernel_rfl)
  have hna := ok_notAgg hv (by rw [Tryd.underlying27]; simp) (by rw [Tryd.underlying27]; simp)
  rcases sh_factors h2 with ⟨nl, l, e, a, b, c⟩ | e
  · subst e
    obtain ⟨u, e, hu⟩ := repL_one h1
    rw [one_cell e hna]; exact ⟨nl, l, hu, a, b, c⟩
  · subst e
    obtain ⟨u, e, hu⟩ := repL_one h1
    rw [one_cell e hna]; exact ⟨true, [], rep_nil hu, by simp, by simp, fun x hx => by cases hx⟩
theorem arg_reasons (h : DataW.Trod enc Tryd.prog w base sp held 70 v d p) (hv : Value.okWide Tryd.prog w r base' 70 v) : ∃ (nl : Bool) (l : List Reason), Rep (memOf w) noLoc (.sl nl (l.map encW) 3 none) v ∧ (nl = true → l = []) ∧ l.length ≤ 9223372036854775807 ∧ ∀ x ∈ l, x.R := by
  obtain ⟨ds, h1, h2⟩ := arg_rep h hv (by kernel_rfl) (by kernel_rfl)
  have hna := ok_notAgg hv (by rw [Tryd.underlying70]; simp) (by rw [Tryd.underlying70]; simp)
  rcases sh_reasons h2 with ⟨nl, l, e, a, b, c⟩ | e
  · subst e
    obtain ⟨u, e, hu⟩ := repL_one h1
    rw [one_cell e hna]; exact ⟨nl, l, hu, a, b, c⟩
  · subst e
    obtain ⟨u, e, hu⟩ := repL_one h1
    rw [one_cell e hna]; exact ⟨true, [], rep_nil hu, by simp, by simp, fun x hx => by cases hx⟩
theorem arg_ratio (h : DataW.Trod enc Tryd.prog w base sp held 34 v d p) (hv : Value.okWide Tryd.prog w r base' 34 v) : ∃ q : Ratio, Rep (memOf w) noLoc (encR q) v ∧ R64 q.n ∧ R64 q.d := by
  obtain ⟨ds, h1, h2⟩ := arg_rep h hv (by kernel_rfl) (by kernel_rfl)
  obtain ⟨cs, rfl⟩ := agg_of hv (.inl ⟨_, Tryd.underlying34⟩)
  obtain ⟨a, b, rfl, ha, hb⟩ := sh_ratio h2
  exact ⟨⟨a, b⟩, by simp only [Rep, encR]; exact ⟨cs, rfl, by simpa [Value.cells] using h1⟩, ha, hb⟩
theorem arg_span (h : DataW.Trod enc Tryd.prog w base sp held 65 v d p) (hv : Value.okWide Tryd.prog w r base' 65 v) : ∃ q : Span, Rep (memOf w) noLoc (encS q) v ∧ R64 q.lo ∧ R64 q.hi := by
  obtain ⟨ds, h1, h2⟩ := arg_rep h hv (by kernel_rfl) (by kernel_rfl)
  obtain ⟨cs, rfl⟩ := agg_of hv (.inl ⟨_, Tryd.underlying65⟩)
  obtain ⟨a, b, rfl, ha, hb⟩ := sh_span h2
  exact ⟨⟨a, b⟩, by simp only [Rep, encS]; exact ⟨cs, rfl, by simpa [Value.cells] using h1⟩, ha, hb⟩
theorem arg_reason (h : DataW.Trod enc Tryd.prog w base sp held 81 v d p) (hv : Value.okWide Tryd.prog w r base' 81 v) : ∃ q : Reason, Rep (memOf w) noLoc (encW q) v ∧ q.R := by
  obtain ⟨ds, h1, h2⟩ := arg_rep h hv (by kernel_rfl) (by kernel_rfl)
  obtain ⟨cs, rfl⟩ := agg_of hv (.inl ⟨_, Tryd.underlying81⟩)
  obtain ⟨a, b, c, rfl, hb⟩ := sh_reason h2
  exact ⟨⟨a, b, c⟩, by simp only [Rep, encW]; exact ⟨cs, rfl, by simpa [Value.cells] using h1⟩, hb⟩
theorem arg_mark (h : DataW.Trod enc Tryd.prog w base sp held 37 v d p) (hv : Value.okWide Tryd.prog w r base' 37 v) : ∃ q : Mark, Rep (memOf w) noLoc (encM q) v ∧ q.R := by
  obtain ⟨ds, h1, h2⟩ := arg_rep h hv (by kernel_rfl) (by kernel_rfl)
  obtain ⟨cs, rfl⟩ := agg_of hv (.inl ⟨_, Tryd.underlying37⟩)
  obtain ⟨a, b, c, d, e, rfl, hb⟩ := sh_mark h2
  exact ⟨⟨a, b, c, d, e⟩, by simp only [Rep, encM]; exact ⟨cs, rfl, by simpa [Value.cells] using h1⟩, hb⟩
theorem arg_join (h : DataW.Trod enc Tryd.prog w base sp held 39 v d p) (hv : Value.okWide Tryd.prog w r base' 39 v) : ∃ q : Join, Rep (memOf w) noLoc (encJ q) v ∧ q.R := by
  obtain ⟨ds, h1, h2⟩ := arg_rep h hv (by kernel_rfl) (by kernel_rfl)
  obtain ⟨cs, rfl⟩ := agg_of hv (.inl ⟨_, Tryd.underlying39⟩)
  obtain ⟨a, b, c, d, e, f, g, rfl, hb⟩ := sh_join h2
  exact ⟨⟨a, b, c, d, e, f, g⟩, by simp only [Rep, encJ]; exact ⟨cs, rfl, by simpa [Value.cells] using h1⟩, hb⟩
end
end Go.VS
