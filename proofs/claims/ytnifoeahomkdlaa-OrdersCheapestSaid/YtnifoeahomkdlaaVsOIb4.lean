/- Nothing of a statement is proved in this text alone: it is part 4 of the proof's own tools, an evaluator of the code over deep values, its soundness, and what it makes of this seat's functions. Conditions: none beyond the statement's own. -/
import Derived.Test.YtnifoeahomkdlaaVsOIb3
import Derived.OpenShut
import Derived.Deep.Slices
import Derived.ChangeStays
import Derived.ReadAgain
import Derived.ChangeSame
import Derived.ChangeBears2
import Derived.Test.YtnifoeahomkdlaaRows
import Derived.WalkKit
import Derived.ProofKit
import Derived.Deep.DeepHandedRow
import Derived.Lib.LaidTab
set_option linter.unusedSimpArgs false
set_option linter.unusedVariables false
namespace Go.VS
open Go Go.Proofs
set_option maxHeartbeats 0
set_option linter.unusedSimpArgs false
set_option linter.unusedVariables false
noncomputable def rg20118 (n : Int) (e : S_Estate) (low : Int) (high : Int) : Rnd := ⟨89, 4, 30, [(11, .fn (.func 96) [] [.ptr (I n)]), (9, .lref 3 0 1 0), (8, .lref 2 0 1 0), (7, B false), (6, .sl true [] 0 none), (5, .lref 1 0 1 0), (4, .lref 0 0 1 0), (0, .fn (.func 96) [] [.ptr (I n)]), (1, .fn (.func 82) [] [.ptr (.agg [.sl e.items.nl (e.items.l.map S_Item.D) (zsl e.items.nl 4) none, I e.whole.lo, I e.whole.hi]), .ptr (I low), .ptr (I high)]), (2, .fn (.func 90) [] [.ptr (.agg [.sl e.items.nl (e.items.l.map S_Item.D) (zsl e.items.nl 4) none, I e.whole.lo, I e.whole.hi])])], [12], subC [1, 1, 1, 0, 1, 0, 0] (bodyC Try.f89), subC [1, 1, 1, 0, 1, 0, 1] (bodyC Try.f89)⟩

noncomputable def lp96_5 : Code := subC [1, 0, 0, 1, 1, 0, 0, 1, 1, 0, 1, 0, 0] (bodyC Try.f96)

def sd20134 (n : Int) (e : S_Estate) (low : Int) (high : Int) (q1_0 : Int) (i5 : Nat) (q5_0 : Int) (va5_0 : List Int) (va5_1 : List Int) : St := ⟨30, [(12, I ((i5 + 1 : Nat) : Int)), (24, I ((i5 + 1 : Nat) : Int)), (4, .lsl 8 0 ((va5_0 ++ [((i5 : Nat) : Int)]).length) 1 none), (23, .lsl 8 0 ((va5_0 ++ [((i5 : Nat) : Int)]).length) 1 none), (22, .lsl 7 0 1 1 (some 1)), (21, I ((i5 : Nat) : Int)), (20, .lsl 5 0 va5_0.length 1 none), (19, B true), (18, I (w64 ((BitVec.ofInt 64 ((q5_0).fdiv (2 ^ (min (((i5 : Nat) : Int)).toNat 64))) &&& BitVec.ofInt 64 1).toNat : Int))), (17, I ((q5_0).fdiv (2 ^ (min (((i5 : Nat) : Int)).toNat 64)))), (16, I ((i5 : Nat) : Int)), (15, I q5_0), (5, I ((i5 : Nat) : Int)), (14, I ((i5 : Nat) : Int)), (13, B true), (0, .yld 4), (1, .ptr (I n)), (3, I q5_0), (4, .lsl 5 0 va5_0.length 1 none), (7, I q1_0), (8, I q5_0), (11, I n), (12, I ((i5 : Nat) : Int))], [(0, ⟨[.fn (.func 82) [] [.ptr (.agg [.sl e.items.nl (e.items.l.map S_Item.D) (zsl e.items.nl 4) none, I e.whole.lo, I e.whole.hi]), .ptr (I low), .ptr (I high)]], 1, false⟩), (1, ⟨[.fn (.func 90) [] [.ptr (.agg [.sl e.items.nl (e.items.l.map S_Item.D) (zsl e.items.nl 4) none, I e.whole.lo, I e.whole.hi])]], 1, false⟩), (2, ⟨[.lsl 6 0 va5_1.length 1 none], 1, false⟩), (3, ⟨[B true], 1, false⟩), (6, ⟨va5_1.map I, 1, false⟩), (7, ⟨[I ((i5 : Nat) : Int)], 1, false⟩), (8, ⟨(va5_0 ++ [((i5 : Nat) : Int)]).map I, 1, false⟩)], 9, 5⟩

def sd20135 (n : Int) (e : S_Estate) (low : Int) (high : Int) (q1_0 : Int) (i5 : Nat) (q5_0 : Int) (va5_0 : List Int) (va5_1 : List Int) : St := ⟨30, [(12, I ((i5 + 1 : Nat) : Int)), (24, I ((i5 + 1 : Nat) : Int)), (19, B false), (18, I (w64 ((BitVec.ofInt 64 ((q5_0).fdiv (2 ^ (min (((i5 : Nat) : Int)).toNat 64))) &&& BitVec.ofInt 64 1).toNat : Int))), (17, I ((q5_0).fdiv (2 ^ (min (((i5 : Nat) : Int)).toNat 64)))), (16, I ((i5 : Nat) : Int)), (15, I q5_0), (5, I ((i5 : Nat) : Int)), (14, I ((i5 : Nat) : Int)), (13, B true), (0, .yld 4), (1, .ptr (I n)), (3, I q5_0), (4, .lsl 5 0 va5_0.length 1 none), (7, I q1_0), (8, I q5_0), (11, I n), (12, I ((i5 : Nat) : Int))], [(0, ⟨[.fn (.func 82) [] [.ptr (.agg [.sl e.items.nl (e.items.l.map S_Item.D) (zsl e.items.nl 4) none, I e.whole.lo, I e.whole.hi]), .ptr (I low), .ptr (I high)]], 1, false⟩), (1, ⟨[.fn (.func 90) [] [.ptr (.agg [.sl e.items.nl (e.items.l.map S_Item.D) (zsl e.items.nl 4) none, I e.whole.lo, I e.whole.hi])]], 1, false⟩), (2, ⟨[.lsl 6 0 va5_1.length 1 none], 1, false⟩), (3, ⟨[B true], 1, false⟩), (5, ⟨va5_0.map I, 1, false⟩), (6, ⟨va5_1.map I, 1, false⟩)], 7, 5⟩

def sd20136 (n : Int) (e : S_Estate) (low : Int) (high : Int) (q1_0 : Int) (i5 : Nat) (q5_0 : Int) (va1_0 : List Int) : St := ⟨30, [(12, I ((i5 + 1 : Nat) : Int)), (24, I ((i5 + 1 : Nat) : Int)), (4, .lsl 7 0 1 1 none), (23, .lsl 7 0 1 1 none), (22, .lsl 6 0 1 1 (some 1)), (21, I ((i5 : Nat) : Int)), (20, .sl true [] 0 none), (19, B true), (18, I (w64 ((BitVec.ofInt 64 ((q5_0).fdiv (2 ^ (min (((i5 : Nat) : Int)).toNat 64))) &&& BitVec.ofInt 64 1).toNat : Int))), (17, I ((q5_0).fdiv (2 ^ (min (((i5 : Nat) : Int)).toNat 64)))), (16, I ((i5 : Nat) : Int)), (15, I q5_0), (5, I ((i5 : Nat) : Int)), (14, I ((i5 : Nat) : Int)), (13, B true), (0, .yld 4), (1, .ptr (I n)), (3, I q5_0), (4, .sl true [] 0 none), (7, I q1_0), (8, I q5_0), (11, I n), (12, I ((i5 : Nat) : Int))], [(0, ⟨[.fn (.func 82) [] [.ptr (.agg [.sl e.items.nl (e.items.l.map S_Item.D) (zsl e.items.nl 4) none, I e.whole.lo, I e.whole.hi]), .ptr (I low), .ptr (I high)]], 1, false⟩), (1, ⟨[.fn (.func 90) [] [.ptr (.agg [.sl e.items.nl (e.items.l.map S_Item.D) (zsl e.items.nl 4) none, I e.whole.lo, I e.whole.hi])]], 1, false⟩), (2, ⟨[.lsl 5 0 va1_0.length 1 none], 1, false⟩), (3, ⟨[B true], 1, false⟩), (5, ⟨va1_0.map I, 1, false⟩), (6, ⟨[I ((i5 : Nat) : Int)], 1, false⟩), (7, ⟨[I ((i5 : Nat) : Int)], 1, false⟩)], 8, 5⟩

def sd20137 (n : Int) (e : S_Estate) (low : Int) (high : Int) (q1_0 : Int) (i5 : Nat) (q5_0 : Int) (va1_0 : List Int) : St := ⟨30, [(12, I ((i5 + 1 : Nat) : Int)), (24, I ((i5 + 1 : Nat) : Int)), (19, B false), (18, I (w64 ((BitVec.ofInt 64 ((q5_0).fdiv (2 ^ (min (((i5 : Nat) : Int)).toNat 64))) &&& BitVec.ofInt 64 1).toNat : Int))), (17, I ((q5_0).fdiv (2 ^ (min (((i5 : Nat) : Int)).toNat 64)))), (16, I ((i5 : Nat) : Int)), (15, I q5_0), (5, I ((i5 : Nat) : Int)), (14, I ((i5 : Nat) : Int)), (13, B true), (0, .yld 4), (1, .ptr (I n)), (3, I q5_0), (4, .sl true [] 0 none), (7, I q1_0), (8, I q5_0), (11, I n), (12, I ((i5 : Nat) : Int))], [(0, ⟨[.fn (.func 82) [] [.ptr (.agg [.sl e.items.nl (e.items.l.map S_Item.D) (zsl e.items.nl 4) none, I e.whole.lo, I e.whole.hi]), .ptr (I low), .ptr (I high)]], 1, false⟩), (1, ⟨[.fn (.func 90) [] [.ptr (.agg [.sl e.items.nl (e.items.l.map S_Item.D) (zsl e.items.nl 4) none, I e.whole.lo, I e.whole.hi])]], 1, false⟩), (2, ⟨[.lsl 5 0 va1_0.length 1 none], 1, false⟩), (3, ⟨[B true], 1, false⟩), (5, ⟨va1_0.map I, 1, false⟩)], 6, 5⟩

inductive LR_orders_lists_1_5 where
  | x0 (i5 : Nat) (va5_0 : List Int) (va5_1 : List Int)
  | x1 (i5 : Nat)
instance : Inhabited LR_orders_lists_1_5 := ⟨.x0 default default default⟩
def zU (va1_0 : List Int) (q5_0 : Int) : Nat → Nat → (List Int) → (List Int) → LR_orders_lists_1_5
  | 0, i5, va5_0, va5_1 => .x0 i5 va5_0 va5_1
  | rest5 + 1, i5, va5_0, va5_1 =>
    bif ((w64 ((BitVec.ofInt 64 ((q5_0).fdiv (2 ^ (min (((i5 : Nat) : Int)).toNat 64))) &&& BitVec.ofInt 64 1).toNat : Int)) == 1) then
      zU va1_0 q5_0 rest5 (i5 + 1) (va5_0 ++ [((i5 : Nat) : Int)]) va5_1
    else
      zU va1_0 q5_0 rest5 (i5 + 1) va5_0 va5_1
def zP (va1_0 : List Int) (q5_0 : Int) : Nat → Nat → LR_orders_lists_1_5
  | 0, i5 => .x1 i5
  | rest5 + 1, i5 =>
    bif ((w64 ((BitVec.ofInt 64 ((q5_0).fdiv (2 ^ (min (((i5 : Nat) : Int)).toNat 64))) &&& BitVec.ofInt 64 1).toNat : Int)) == 1) then
      zU va1_0 q5_0 rest5 (i5 + 1) [((i5 : Nat) : Int)] va1_0
    else
      zP va1_0 q5_0 rest5 (i5 + 1)
def lr_orders_lists_1_5 (n : Int) (e : S_Estate) (low : Int) (high : Int) (q1_0 : Int) (va1_0 : List Int) (q5_0 : Int) : LR_orders_lists_1_5 → Exit × St × Option Code
  | .x0 i5 va5_0 va5_1 => ((.exit 2), ⟨30, [(13, B false), (0, .yld 4), (1, .ptr (I n)), (3, I q5_0), (4, .lsl 5 0 va5_0.length 1 none), (7, I q1_0), (8, I q5_0), (11, I n), (12, I ((i5 : Nat) : Int))], [(0, ⟨[.fn (.func 82) [] [.ptr (.agg [.sl e.items.nl (e.items.l.map S_Item.D) (zsl e.items.nl 4) none, I e.whole.lo, I e.whole.hi]), .ptr (I low), .ptr (I high)]], 1, false⟩), (1, ⟨[.fn (.func 90) [] [.ptr (.agg [.sl e.items.nl (e.items.l.map S_Item.D) (zsl e.items.nl 4) none, I e.whole.lo, I e.whole.hi])]], 1, false⟩), (2, ⟨[.lsl 6 0 va5_1.length 1 none], 1, false⟩), (3, ⟨[B true], 1, false⟩), (5, ⟨va5_0.map I, 1, false⟩), (6, ⟨va5_1.map I, 1, false⟩)], 7, 5⟩, none)
  | .x1 i5 => ((.exit 2), ⟨30, [(13, B false), (0, .yld 4), (1, .ptr (I n)), (3, I q5_0), (4, .sl true [] 0 none), (7, I q1_0), (8, I q5_0), (11, I n), (12, I ((i5 : Nat) : Int))], [(0, ⟨[.fn (.func 82) [] [.ptr (.agg [.sl e.items.nl (e.items.l.map S_Item.D) (zsl e.items.nl 4) none, I e.whole.lo, I e.whole.hi]), .ptr (I low), .ptr (I high)]], 1, false⟩), (1, ⟨[.fn (.func 90) [] [.ptr (.agg [.sl e.items.nl (e.items.l.map S_Item.D) (zsl e.items.nl 4) none, I e.whole.lo, I e.whole.hi])]], 1, false⟩), (2, ⟨[.lsl 5 0 va1_0.length 1 none], 1, false⟩), (3, ⟨[B true], 1, false⟩), (5, ⟨va1_0.map I, 1, false⟩)], 6, 5⟩, none)
def zZ (n : Int) (e : S_Estate) (low : Int) (high : Int) (q1_0 : Int) (va1_0 : List Int) (q5_0 : Int) : LR_orders_lists_1_5 → Prop
  | .x0 i5 va5_0 va5_1 => (∀ i ∈ va5_0, 0 ≤ i ∧ i < ((e.items.l.length : Nat) : Int)) ∧ (va5_0.length ≤ 12) ∧ (∀ i ∈ va5_1, 0 ≤ i ∧ i < ((e.items.l.length : Nat) : Int)) ∧ (va5_1.length ≤ 12) ∧ (va5_0.length ≤ i5)
  | .x1 i5 => True
theorem lp_orders_lists_1_5a (n : Int) (e : S_Estate) (low : Int) (high : Int) (q1_0 : Int) (va1_0 : List Int) (q5_0 : Int) : ∀ (rest5 : Nat) (i5 : Nat) (va5_0 : List Int) (va5_1 : List Int) (hk5 : (n - ((i5 : Nat) : Int)).toNat = rest5) (hN5 : n ≤ 9223372036854775807) (hm5_va5_0 : ∀ i ∈ va5_0, 0 ≤ i ∧ i < ((e.items.l.length : Nat) : Int)) (hz5_va5_0 : va5_0.length ≤ 12) (hm5_va5_1 : ∀ i ∈ va5_1, 0 ≤ i ∧ i < ((e.items.l.length : Nat) : Int)) (hz5_va5_1 : va5_1.length ≤ 12) (hm5_b : ∀ i ∈ va1_0, 0 ≤ i ∧ i < ((e.items.l.length : Nat) : Int)) (hz5_b : va1_0.length ≤ 12) (hn : n = ((e.items.l.length : Nat) : Int)) (hle : e.items.l.length ≤ 12) (hg5_va5_0 : va5_0.length ≤ i5) (hL5 : n ≤ 1099511627776), (lim cfg).loopY (rg20118 n e low high) 96 lp96_5 ⟨30, [(0, .yld 4), (1, .ptr (I n)), (3, I q5_0), (4, .lsl 5 0 va5_0.length 1 none), (7, I q1_0), (8, I q5_0), (11, I n), (12, I ((i5 : Nat) : Int))], [(0, ⟨[.fn (.func 82) [] [.ptr (.agg [.sl e.items.nl (e.items.l.map S_Item.D) (zsl e.items.nl 4) none, I e.whole.lo, I e.whole.hi]), .ptr (I low), .ptr (I high)]], 1, false⟩), (1, ⟨[.fn (.func 90) [] [.ptr (.agg [.sl e.items.nl (e.items.l.map S_Item.D) (zsl e.items.nl 4) none, I e.whole.lo, I e.whole.hi])]], 1, false⟩), (2, ⟨[.lsl 6 0 va5_1.length 1 none], 1, false⟩), (3, ⟨[B true], 1, false⟩), (5, ⟨va5_0.map I, 1, false⟩), (6, ⟨va5_1.map I, 1, false⟩)], 7, 5⟩ = some (lr_orders_lists_1_5 n e low high q1_0 va1_0 q5_0 (zU va1_0 q5_0 rest5 i5 va5_0 va5_1)) := by
  intro rest5
  induction rest5 with
  | zero =>
    intro i5 va5_0 va5_1 hk5 hN5 hm5_va5_0 hz5_va5_0 hm5_va5_1 hz5_va5_1 hm5_b hz5_b hn hle hg5_va5_0 hL5
    unfold zU
    exact po_lastY [.dec false] (And.intro (ct_no hk5) trivial) (by kernel_rfl)
  | succ rest5 ih =>
    intro i5 va5_0 va5_1 hk5 hN5 hm5_va5_0 hz5_va5_0 hm5_va5_1 hz5_va5_1 hm5_b hz5_b hn hle hg5_va5_0 hL5
    have hlt5 := of_decide_eq_true (ct_at hk5)
    unfold zU
    cases h23 : ((w64 ((BitVec.ofInt 64 ((q5_0).fdiv (2 ^ (min (((i5 : Nat) : Int)).toNat 64))) &&& BitVec.ofInt 64 1).toNat : Int)) == 1) with
    | true =>
      exact po_turnY' (ks := [0, 1, 3, 4, 7, 8, 11, 12]) (st' := (sd20134 n e low high q1_0 i5 q5_0 va5_0 va5_1)) [.dec true, .op (some 17) ⟨I ((q5_0).fdiv (2 ^ (min (((i5 : Nat) : Int)).toNat 64))), [], [], 7⟩, .dec true, .op (some 23) ⟨.lsl 8 0 ((va5_0 ++ [((i5 : Nat) : Int)]).length) 1 none, [(5, none), (8, some ⟨(va5_0 ++ [((i5 : Nat) : Int)]).map I, 1, false⟩)], [5, 7], 9⟩, .rw 24 (I ((i5 + 1 : Nat) : Int))] (And.intro (inc_rw (i := i5) (by first | assumption | omega)) (And.intro (app_row (f := I) (te := ty3) (gO := zy [(0, ⟨[.fn (.func 82) [] [.ptr (.agg [.sl e.items.nl (e.items.l.map S_Item.D) (zsl e.items.nl 4) none, I e.whole.lo, I e.whole.hi]), .ptr (I low), .ptr (I high)]], 1, false⟩), (1, ⟨[.fn (.func 90) [] [.ptr (.agg [.sl e.items.nl (e.items.l.map S_Item.D) (zsl e.items.nl 4) none, I e.whole.lo, I e.whole.hi])]], 1, false⟩), (2, ⟨[.lsl 6 0 va5_1.length 1 none], 1, false⟩), (3, ⟨[B true], 1, false⟩), (5, ⟨va5_0.map I, 1, false⟩), (6, ⟨va5_1.map I, 1, false⟩), (7, ⟨[I ((i5 : Nat) : Int)], 1, false⟩)]) (nxt := 8) (o := 5) (o2 := 7) (fz := false) eok_I va5_0 ((i5 : Nat) : Int) (by kernel_rfl) (by kernel_rfl) rfl (by kernel_rfl) (by decide) ⟨by simp only [ty3, big] <;> (first | assumption | omega | (with_reducible exact zp) | (with_reducible exact Nat.le_trans zG (by omega)) | (with_reducible exact zF) | (with_reducible exact zE (by omega)) | (with_reducible exact zD (by assumption) (by omega)) | (simp only [ze] at * <;> omega) | (simp only [z9, z8, z7, z6, zd, GS.nil_len, GS.some_l, List.length_set, List.length_append, List.length_cons, List.length_nil] at * <;> first | with_reducible assumption | omega) | (simp only [z9, z8, z7, z6, zd, GS.nil_len, GS.some_l, List.length_set, List.length_append, List.length_cons, List.length_nil, ze] at * <;> first | with_reducible assumption | omega) | (simp at * <;> omega)), by simp only [big] <;> (first | assumption | omega | (with_reducible exact zp) | (with_reducible exact Nat.le_trans zG (by omega)) | (with_reducible exact zF) | (with_reducible exact zE (by omega)) | (with_reducible exact zD (by assumption) (by omega)) | (simp only [ze] at * <;> omega) | (simp only [z9, z8, z7, z6, zd, GS.nil_len, GS.some_l, List.length_set, List.length_append, List.length_cons, List.length_nil] at * <;> first | with_reducible assumption | omega) | (simp only [z9, z8, z7, z6, zd, GS.nil_len, GS.some_l, List.length_set, List.length_append, List.length_cons, List.length_nil, ze] at * <;> first | with_reducible assumption | omega) | (simp at * <;> omega))⟩) (And.intro h23 (And.intro (shr_op (C := cfg) (t := 3) (cst := false) (nxt := 7) (a := q5_0) (b := ((i5 : Nat) : Int)) (by first | assumption | omega)) (And.intro (ct_at hk5) trivial))))) (by kernel_rfl) (by (simp only [sd20134, go_sem, Nat.reduceAdd, Nat.reduceEqDiff, Nat.reduceLT, Nat.reduceLeDiff, bI2, eok_I.idsL, eok_I.renL, eok_I.snapAll, zj.idsL, zj.renL, zj.snapAll]) <;> rfl) (ih (i5 + 1) (va5_0 ++ [((i5 : Nat) : Int)]) va5_1 (by omega) hN5 (by first | assumption | omega | (with_reducible exact zp) | (with_reducible exact Nat.le_trans zG (by omega)) | (with_reducible exact zF) | (with_reducible exact zE (by omega)) | (with_reducible exact zD (by assumption) (by omega)) | (simp only [ze] at * <;> omega) | (simp only [z9, z8, z7, z6, zd, GS.nil_len, GS.some_l, List.length_set, List.length_append, List.length_cons, List.length_nil] at * <;> first | with_reducible assumption | omega) | (simp only [z9, z8, z7, z6, zd, GS.nil_len, GS.some_l, List.length_set, List.length_append, List.length_cons, List.length_nil, ze] at * <;> first | with_reducible assumption | omega) | (simp at * <;> omega)) (by first | assumption | omega | (with_reducible exact zp) | (with_reducible exact Nat.le_trans zG (by omega)) | (with_reducible exact zF) | (with_reducible exact zE (by omega)) | (with_reducible exact zD (by assumption) (by omega)) | (simp only [ze] at * <;> omega) | (simp only [z9, z8, z7, z6, zd, GS.nil_len, GS.some_l, List.length_set, List.length_append, List.length_cons, List.length_nil] at * <;> first | with_reducible assumption | omega) | (simp only [z9, z8, z7, z6, zd, GS.nil_len, GS.some_l, List.length_set, List.length_append, List.length_cons, List.length_nil, ze] at * <;> first | with_reducible assumption | omega) | (simp at * <;> omega)) (by first | assumption | omega) (by first | assumption | omega) (by first | assumption | omega) (by first | assumption | omega) (by first | assumption | omega) (by first | assumption | omega) (by first | assumption | omega | (with_reducible exact zp) | (with_reducible exact Nat.le_trans zG (by omega)) | (with_reducible exact zF) | (with_reducible exact zE (by omega)) | (with_reducible exact zD (by assumption) (by omega)) | (simp only [ze] at * <;> omega) | (simp only [z9, z8, z7, z6, zd, GS.nil_len, GS.some_l, List.length_set, List.length_append, List.length_cons, List.length_nil] at * <;> first | with_reducible assumption | omega) | (simp only [z9, z8, z7, z6, zd, GS.nil_len, GS.some_l, List.length_set, List.length_append, List.length_cons, List.length_nil, ze] at * <;> first | with_reducible assumption | omega) | (simp at * <;> omega)) (by first | assumption | omega)) (by kernel_rfl)
    | false =>
      exact po_turnY' (ks := [0, 1, 3, 4, 7, 8, 11, 12]) (st' := (sd20135 n e low high q1_0 i5 q5_0 va5_0 va5_1)) [.dec true, .op (some 17) ⟨I ((q5_0).fdiv (2 ^ (min (((i5 : Nat) : Int)).toNat 64))), [], [], 7⟩, .dec false, .rw 24 (I ((i5 + 1 : Nat) : Int))] (And.intro (inc_rw (i := i5) (by first | assumption | omega)) (And.intro h23 (And.intro (shr_op (C := cfg) (t := 3) (cst := false) (nxt := 7) (a := q5_0) (b := ((i5 : Nat) : Int)) (by first | assumption | omega)) (And.intro (ct_at hk5) trivial)))) (by kernel_rfl) (by (simp only [sd20135, go_sem, Nat.reduceAdd, Nat.reduceEqDiff, Nat.reduceLT, Nat.reduceLeDiff, bI2, eok_I.idsL, eok_I.renL, eok_I.snapAll, zj.idsL, zj.renL, zj.snapAll]) <;> rfl) (ih (i5 + 1) va5_0 va5_1 (by omega) hN5 (by first | assumption | omega) (by first | assumption | omega) (by first | assumption | omega) (by first | assumption | omega) (by first | assumption | omega) (by first | assumption | omega) (by first | assumption | omega) (by first | assumption | omega) (by first | assumption | omega) (by first | assumption | omega)) (by kernel_rfl)
theorem ivt_orders_lists_1_5a (n : Int) (e : S_Estate) (low : Int) (high : Int) (q1_0 : Int) (va1_0 : List Int) (q5_0 : Int) : ∀ (rest5 : Nat) (i5 : Nat) (va5_0 : List Int) (va5_1 : List Int) (hk5 : (n - ((i5 : Nat) : Int)).toNat = rest5) (hN5 : n ≤ 9223372036854775807) (hm5_va5_0 : ∀ i ∈ va5_0, 0 ≤ i ∧ i < ((e.items.l.length : Nat) : Int)) (hz5_va5_0 : va5_0.length ≤ 12) (hm5_va5_1 : ∀ i ∈ va5_1, 0 ≤ i ∧ i < ((e.items.l.length : Nat) : Int)) (hz5_va5_1 : va5_1.length ≤ 12) (hm5_b : ∀ i ∈ va1_0, 0 ≤ i ∧ i < ((e.items.l.length : Nat) : Int)) (hz5_b : va1_0.length ≤ 12) (hn : n = ((e.items.l.length : Nat) : Int)) (hle : e.items.l.length ≤ 12) (hg5_va5_0 : va5_0.length ≤ i5) (hL5 : n ≤ 1099511627776), zZ n e low high q1_0 va1_0 q5_0 (zU va1_0 q5_0 rest5 i5 va5_0 va5_1) := by
  intro rest5
  induction rest5 with
  | zero =>
    intro i5 va5_0 va5_1 hk5 hN5 hm5_va5_0 hz5_va5_0 hm5_va5_1 hz5_va5_1 hm5_b hz5_b hn hle hg5_va5_0 hL5
    unfold zU
    exact ⟨hm5_va5_0, hz5_va5_0, hm5_va5_1, hz5_va5_1, hg5_va5_0⟩
  | succ rest5 ih =>
    intro i5 va5_0 va5_1 hk5 hN5 hm5_va5_0 hz5_va5_0 hm5_va5_1 hz5_va5_1 hm5_b hz5_b hn hle hg5_va5_0 hL5
    have hlt5 := of_decide_eq_true (ct_at hk5)
    unfold zU
    cases h23 : ((w64 ((BitVec.ofInt 64 ((q5_0).fdiv (2 ^ (min (((i5 : Nat) : Int)).toNat 64))) &&& BitVec.ofInt 64 1).toNat : Int)) == 1) with
    | true =>
      exact ih (i5 + 1) (va5_0 ++ [((i5 : Nat) : Int)]) va5_1 (by omega) hN5 (by first | assumption | omega | (with_reducible exact zp) | (with_reducible exact Nat.le_trans zG (by omega)) | (with_reducible exact zF) | (with_reducible exact zE (by omega)) | (with_reducible exact zD (by assumption) (by omega)) | (simp only [ze] at * <;> omega) | (simp only [z9, z8, z7, z6, zd, GS.nil_len, GS.some_l, List.length_set, List.length_append, List.length_cons, List.length_nil] at * <;> first | with_reducible assumption | omega) | (simp only [z9, z8, z7, z6, zd, GS.nil_len, GS.some_l, List.length_set, List.length_append, List.length_cons, List.length_nil, ze] at * <;> first | with_reducible assumption | omega) | (simp at * <;> omega)) (by first | assumption | omega | (with_reducible exact zp) | (with_reducible exact Nat.le_trans zG (by omega)) | (with_reducible exact zF) | (with_reducible exact zE (by omega)) | (with_reducible exact zD (by assumption) (by omega)) | (simp only [ze] at * <;> omega) | (simp only [z9, z8, z7, z6, zd, GS.nil_len, GS.some_l, List.length_set, List.length_append, List.length_cons, List.length_nil] at * <;> first | with_reducible assumption | omega) | (simp only [z9, z8, z7, z6, zd, GS.nil_len, GS.some_l, List.length_set, List.length_append, List.length_cons, List.length_nil, ze] at * <;> first | with_reducible assumption | omega) | (simp at * <;> omega)) (by first | assumption | omega) (by first | assumption | omega) (by first | assumption | omega) (by first | assumption | omega) (by first | assumption | omega) (by first | assumption | omega) (by first | assumption | omega | (with_reducible exact zp) | (with_reducible exact Nat.le_trans zG (by omega)) | (with_reducible exact zF) | (with_reducible exact zE (by omega)) | (with_reducible exact zD (by assumption) (by omega)) | (simp only [ze] at * <;> omega) | (simp only [z9, z8, z7, z6, zd, GS.nil_len, GS.some_l, List.length_set, List.length_append, List.length_cons, List.length_nil] at * <;> first | with_reducible assumption | omega) | (simp only [z9, z8, z7, z6, zd, GS.nil_len, GS.some_l, List.length_set, List.length_append, List.length_cons, List.length_nil, ze] at * <;> first | with_reducible assumption | omega) | (simp at * <;> omega)) (by first | assumption | omega)
    | false =>
      exact ih (i5 + 1) va5_0 va5_1 (by omega) hN5 (by first | assumption | omega) (by first | assumption | omega) (by first | assumption | omega) (by first | assumption | omega) (by first | assumption | omega) (by first | assumption | omega) (by first | assumption | omega) (by first | assumption | omega) (by first | assumption | omega) (by first | assumption | omega)
theorem lp_orders_lists_1_5 (n : Int) (e : S_Estate) (low : Int) (high : Int) (q1_0 : Int) (va1_0 : List Int) (q5_0 : Int) : ∀ (rest5 : Nat) (i5 : Nat) (hk5 : (n - ((i5 : Nat) : Int)).toNat = rest5) (hN5 : n ≤ 9223372036854775807) (hm5_b : ∀ i ∈ va1_0, 0 ≤ i ∧ i < ((e.items.l.length : Nat) : Int)) (hz5_b : va1_0.length ≤ 12) (hn : n = ((e.items.l.length : Nat) : Int)) (hle : e.items.l.length ≤ 12) (hL5 : n ≤ 1099511627776), (lim cfg).loopY (rg20118 n e low high) 96 lp96_5 ⟨30, [(0, .yld 4), (1, .ptr (I n)), (3, I q5_0), (4, .sl true [] 0 none), (7, I q1_0), (8, I q5_0), (11, I n), (12, I ((i5 : Nat) : Int))], [(0, ⟨[.fn (.func 82) [] [.ptr (.agg [.sl e.items.nl (e.items.l.map S_Item.D) (zsl e.items.nl 4) none, I e.whole.lo, I e.whole.hi]), .ptr (I low), .ptr (I high)]], 1, false⟩), (1, ⟨[.fn (.func 90) [] [.ptr (.agg [.sl e.items.nl (e.items.l.map S_Item.D) (zsl e.items.nl 4) none, I e.whole.lo, I e.whole.hi])]], 1, false⟩), (2, ⟨[.lsl 5 0 va1_0.length 1 none], 1, false⟩), (3, ⟨[B true], 1, false⟩), (5, ⟨va1_0.map I, 1, false⟩)], 6, 5⟩ = some (lr_orders_lists_1_5 n e low high q1_0 va1_0 q5_0 (zP va1_0 q5_0 rest5 i5)) := by
  intro rest5
  induction rest5 with
  | zero =>
    intro i5 hk5 hN5 hm5_b hz5_b hn hle hL5
    unfold zP
    exact po_lastY [.dec false] (And.intro (ct_no hk5) trivial) (by kernel_rfl)
  | succ rest5 ih =>
    intro i5 hk5 hN5 hm5_b hz5_b hn hle hL5
    have hlt5 := of_decide_eq_true (ct_at hk5)
    unfold zP
    cases h24 : ((w64 ((BitVec.ofInt 64 ((q5_0).fdiv (2 ^ (min (((i5 : Nat) : Int)).toNat 64))) &&& BitVec.ofInt 64 1).toNat : Int)) == 1) with
    | true =>
      exact po_turnY' (ks := [0, 1, 3, 4, 7, 8, 11, 12]) (st' := (sd20136 n e low high q1_0 i5 q5_0 va1_0)) [.dec true, .op (some 17) ⟨I ((q5_0).fdiv (2 ^ (min (((i5 : Nat) : Int)).toNat 64))), [], [], 6⟩, .dec true, .rw 24 (I ((i5 + 1 : Nat) : Int))] (And.intro (inc_rw (i := i5) (by first | assumption | omega)) (And.intro h24 (And.intro (shr_op (C := cfg) (t := 3) (cst := false) (nxt := 6) (a := q5_0) (b := ((i5 : Nat) : Int)) (by first | assumption | omega)) (And.intro (ct_at hk5) trivial)))) (by kernel_rfl) (by (simp only [sd20136, go_sem, Nat.reduceAdd, Nat.reduceEqDiff, Nat.reduceLT, Nat.reduceLeDiff, bI2, eok_I.idsL, eok_I.renL, eok_I.snapAll, zj.idsL, zj.renL, zj.snapAll]) <;> rfl) (lp_orders_lists_1_5a n e low high q1_0 va1_0 q5_0 _ (i5 + 1) [((i5 : Nat) : Int)] va1_0 (by omega) hN5 (by first | assumption | omega | (with_reducible exact zp) | (with_reducible exact Nat.le_trans zG (by omega)) | (with_reducible exact zF) | (with_reducible exact zE (by omega)) | (with_reducible exact zD (by assumption) (by omega)) | (simp only [ze] at * <;> omega) | (simp only [z9, z8, z7, z6, zd, GS.nil_len, GS.some_l, List.length_set, List.length_append, List.length_cons, List.length_nil] at * <;> first | with_reducible assumption | omega) | (simp only [z9, z8, z7, z6, zd, GS.nil_len, GS.some_l, List.length_set, List.length_append, List.length_cons, List.length_nil, ze] at * <;> first | with_reducible assumption | omega) | (simp at * <;> omega)) (by first | assumption | omega | (with_reducible exact zp) | (with_reducible exact Nat.le_trans zG (by omega)) | (with_reducible exact zF) | (with_reducible exact zE (by omega)) | (with_reducible exact zD (by assumption) (by omega)) | (simp only [ze] at * <;> omega) | (simp only [z9, z8, z7, z6, zd, GS.nil_len, GS.some_l, List.length_set, List.length_append, List.length_cons, List.length_nil] at * <;> first | with_reducible assumption | omega) | (simp only [z9, z8, z7, z6, zd, GS.nil_len, GS.some_l, List.length_set, List.length_append, List.length_cons, List.length_nil, ze] at * <;> first | with_reducible assumption | omega) | (simp at * <;> omega)) (by first | assumption | omega) (by first | assumption | omega) (by first | assumption | omega) (by first | assumption | omega) (by first | assumption | omega) (by first | assumption | omega) (by first | assumption | omega | (with_reducible exact zp) | (with_reducible exact Nat.le_trans zG (by omega)) | (with_reducible exact zF) | (with_reducible exact zE (by omega)) | (with_reducible exact zD (by assumption) (by omega)) | (simp only [ze] at * <;> omega) | (simp only [z9, z8, z7, z6, zd, GS.nil_len, GS.some_l, List.length_set, List.length_append, List.length_cons, List.length_nil] at * <;> first | with_reducible assumption | omega) | (simp only [z9, z8, z7, z6, zd, GS.nil_len, GS.some_l, List.length_set, List.length_append, List.length_cons, List.length_nil, ze] at * <;> first | with_reducible assumption | omega) | (simp at * <;> omega)) (by first | assumption | omega)) (by kernel_rfl)
    | false =>
      exact po_turnY' (ks := [0, 1, 3, 4, 7, 8, 11, 12]) (st' := (sd20137 n e low high q1_0 i5 q5_0 va1_0)) [.dec true, .op (some 17) ⟨I ((q5_0).fdiv (2 ^ (min (((i5 : Nat) : Int)).toNat 64))), [], [], 6⟩, .dec false, .rw 24 (I ((i5 + 1 : Nat) : Int))] (And.intro (inc_rw (i := i5) (by first | assumption | omega)) (And.intro h24 (And.intro (shr_op (C := cfg) (t := 3) (cst := false) (nxt := 6) (a := q5_0) (b := ((i5 : Nat) : Int)) (by first | assumption | omega)) (And.intro (ct_at hk5) trivial)))) (by kernel_rfl) (by (simp only [sd20137, go_sem, Nat.reduceAdd, Nat.reduceEqDiff, Nat.reduceLT, Nat.reduceLeDiff, bI2, eok_I.idsL, eok_I.renL, eok_I.snapAll, zj.idsL, zj.renL, zj.snapAll]) <;> rfl) (ih (i5 + 1) (by omega) hN5 (by first | assumption | omega) (by first | assumption | omega) (by first | assumption | omega) (by first | assumption | omega) (by first | assumption | omega)) (by kernel_rfl)
theorem ivt_orders_lists_1_5 (n : Int) (e : S_Estate) (low : Int) (high : Int) (q1_0 : Int) (va1_0 : List Int) (q5_0 : Int) : ∀ (rest5 : Nat) (i5 : Nat) (hk5 : (n - ((i5 : Nat) : Int)).toNat = rest5) (hN5 : n ≤ 9223372036854775807) (hm5_b : ∀ i ∈ va1_0, 0 ≤ i ∧ i < ((e.items.l.length : Nat) : Int)) (hz5_b : va1_0.length ≤ 12) (hn : n = ((e.items.l.length : Nat) : Int)) (hle : e.items.l.length ≤ 12) (hL5 : n ≤ 1099511627776), zZ n e low high q1_0 va1_0 q5_0 (zP va1_0 q5_0 rest5 i5) := by
  intro rest5
  induction rest5 with
  | zero =>
    intro i5 hk5 hN5 hm5_b hz5_b hn hle hL5
    unfold zP
    exact trivial
  | succ rest5 ih =>
    intro i5 hk5 hN5 hm5_b hz5_b hn hle hL5
    have hlt5 := of_decide_eq_true (ct_at hk5)
    unfold zP
    cases h24 : ((w64 ((BitVec.ofInt 64 ((q5_0).fdiv (2 ^ (min (((i5 : Nat) : Int)).toNat 64))) &&& BitVec.ofInt 64 1).toNat : Int)) == 1) with
    | true =>
      exact ivt_orders_lists_1_5a n e low high q1_0 va1_0 q5_0 _ (i5 + 1) [((i5 : Nat) : Int)] va1_0 (by omega) hN5 (by first | assumption | omega | (with_reducible exact zp) | (with_reducible exact Nat.le_trans zG (by omega)) | (with_reducible exact zF) | (with_reducible exact zE (by omega)) | (with_reducible exact zD (by assumption) (by omega)) | (simp only [ze] at * <;> omega) | (simp only [z9, z8, z7, z6, zd, GS.nil_len, GS.some_l, List.length_set, List.length_append, List.length_cons, List.length_nil] at * <;> first | with_reducible assumption | omega) | (simp only [z9, z8, z7, z6, zd, GS.nil_len, GS.some_l, List.length_set, List.length_append, List.length_cons, List.length_nil, ze] at * <;> first | with_reducible assumption | omega) | (simp at * <;> omega)) (by first | assumption | omega | (with_reducible exact zp) | (with_reducible exact Nat.le_trans zG (by omega)) | (with_reducible exact zF) | (with_reducible exact zE (by omega)) | (with_reducible exact zD (by assumption) (by omega)) | (simp only [ze] at * <;> omega) | (simp only [z9, z8, z7, z6, zd, GS.nil_len, GS.some_l, List.length_set, List.length_append, List.length_cons, List.length_nil] at * <;> first | with_reducible assumption | omega) | (simp only [z9, z8, z7, z6, zd, GS.nil_len, GS.some_l, List.length_set, List.length_append, List.length_cons, List.length_nil, ze] at * <;> first | with_reducible assumption | omega) | (simp at * <;> omega)) (by first | assumption | omega) (by first | assumption | omega) (by first | assumption | omega) (by first | assumption | omega) (by first | assumption | omega) (by first | assumption | omega) (by first | assumption | omega | (with_reducible exact zp) | (with_reducible exact Nat.le_trans zG (by omega)) | (with_reducible exact zF) | (with_reducible exact zE (by omega)) | (with_reducible exact zD (by assumption) (by omega)) | (simp only [ze] at * <;> omega) | (simp only [z9, z8, z7, z6, zd, GS.nil_len, GS.some_l, List.length_set, List.length_append, List.length_cons, List.length_nil] at * <;> first | with_reducible assumption | omega) | (simp only [z9, z8, z7, z6, zd, GS.nil_len, GS.some_l, List.length_set, List.length_append, List.length_cons, List.length_nil, ze] at * <;> first | with_reducible assumption | omega) | (simp at * <;> omega)) (by first | assumption | omega)
    | false =>
      exact ih (i5 + 1) (by omega) hN5 (by first | assumption | omega) (by first | assumption | omega) (by first | assumption | omega) (by first | assumption | omega) (by first | assumption | omega)

theorem nza_orders_lists_1_5 (w : List Int) (q : Int) : ∀ (rest i : Nat) (v u : List Int) (j : Nat), zU w q rest i v u ≠ .x1 j := by
  intro rest
  induction rest with
  | zero => intro i v u j h; cases h
  | succ rest ih =>
    intro i v u j
    unfold zU
    rw [Bool.cond_eq_ite]
    split
    · exact ih _ _ _ _
    · exact ih _ _ _ _
theorem nzb_orders_lists_1_5 (w : List Int) {m : Nat} (hm : m < 4611686018427387904) : ∀ (rest i : Nat) (j : Nat), i + rest ≤ 64 → zP w ((m : Nat) : Int) rest i = .x1 j → ∀ k, i ≤ k → k < i + rest → m.testBit k = false := by
  intro rest
  induction rest with
  | zero => intro i j _ _ k h1 h2; omega
  | succ rest ih =>
    intro i j hb h k h1 h2
    unfold zP at h
    rw [bt_eq hm (by omega), Bool.cond_eq_ite] at h
    split at h
    · exact absurd h (nza_orders_lists_1_5 _ _ _ _ _ _ _)
    · rename_i hc
      by_cases hk : k = i
      · subst hk; simpa using hc
      · exact ih (i + 1) j (by omega) h k (by omega) (by omega)
theorem nz_orders_lists_1_5 {e : S_Estate} {n : Int} {i1 j : Nat} (w : List Int) (hn : n = ((e.items.l.length : Nat) : Int)) (hle : e.items.l.length ≤ 12) (hlt : ((i1 : Nat) : Int) < w64 (1 * 2 ^ (min (n).toNat 64))) (h : zP w ((i1 : Nat) : Int) (n - 0).toNat 0 = .x1 j) : ¬ 1 ≤ i1 := by
  rw [shl_one (by omega) (by omega)] at hlt
  have hlt' : i1 < 2 ^ n.toNat := Int.ofNat_lt.1 hlt
  have hp : 2 ^ n.toNat ≤ 2 ^ 12 := Nat.pow_le_pow_right (by omega) (by omega)
  have := no_bits hlt' fun k hk => nzb_orders_lists_1_5 w (by omega) _ _ _ (by omega) h k (by omega) (by omega)
  omega

def sd20139 (n : Int) (e : S_Estate) (low : Int) (high : Int) (q1_0 : Int) (v1_0 : Bool) (i5p1 : Nat) (q5p1_0 : Int) (va5p1_0 : List Int) : St := ⟨30, [(12, I ((i5p1 + 1 : Nat) : Int)), (24, I ((i5p1 + 1 : Nat) : Int)), (4, .lsl 7 0 ((va5p1_0 ++ [((i5p1 : Nat) : Int)]).length) 1 none), (23, .lsl 7 0 ((va5p1_0 ++ [((i5p1 : Nat) : Int)]).length) 1 none), (22, .lsl 6 0 1 1 (some 1)), (21, I ((i5p1 : Nat) : Int)), (20, .lsl 5 0 va5p1_0.length 1 none), (19, B true), (18, I (w64 ((BitVec.ofInt 64 ((q5p1_0).fdiv (2 ^ (min (((i5p1 : Nat) : Int)).toNat 64))) &&& BitVec.ofInt 64 1).toNat : Int))), (17, I ((q5p1_0).fdiv (2 ^ (min (((i5p1 : Nat) : Int)).toNat 64)))), (16, I ((i5p1 : Nat) : Int)), (15, I q5p1_0), (5, I ((i5p1 : Nat) : Int)), (14, I ((i5p1 : Nat) : Int)), (13, B true), (0, .yld 4), (1, .ptr (I n)), (3, I q5p1_0), (4, .lsl 5 0 va5p1_0.length 1 none), (7, I q1_0), (8, I q5p1_0), (11, I n), (12, I ((i5p1 : Nat) : Int))], [(0, ⟨[.fn (.func 82) [] [.ptr (.agg [.sl e.items.nl (e.items.l.map S_Item.D) (zsl e.items.nl 4) none, I e.whole.lo, I e.whole.hi]), .ptr (I low), .ptr (I high)]], 1, false⟩), (1, ⟨[.fn (.func 90) [] [.ptr (.agg [.sl e.items.nl (e.items.l.map S_Item.D) (zsl e.items.nl 4) none, I e.whole.lo, I e.whole.hi])]], 1, false⟩), (2, ⟨[.sl true [] 0 none], 1, false⟩), (3, ⟨[B v1_0], 1, false⟩), (6, ⟨[I ((i5p1 : Nat) : Int)], 1, false⟩), (7, ⟨(va5p1_0 ++ [((i5p1 : Nat) : Int)]).map I, 1, false⟩)], 8, 5⟩

def sd20140 (n : Int) (e : S_Estate) (low : Int) (high : Int) (q1_0 : Int) (v1_0 : Bool) (i5p1 : Nat) (q5p1_0 : Int) (va5p1_0 : List Int) : St := ⟨30, [(12, I ((i5p1 + 1 : Nat) : Int)), (24, I ((i5p1 + 1 : Nat) : Int)), (19, B false), (18, I (w64 ((BitVec.ofInt 64 ((q5p1_0).fdiv (2 ^ (min (((i5p1 : Nat) : Int)).toNat 64))) &&& BitVec.ofInt 64 1).toNat : Int))), (17, I ((q5p1_0).fdiv (2 ^ (min (((i5p1 : Nat) : Int)).toNat 64)))), (16, I ((i5p1 : Nat) : Int)), (15, I q5p1_0), (5, I ((i5p1 : Nat) : Int)), (14, I ((i5p1 : Nat) : Int)), (13, B true), (0, .yld 4), (1, .ptr (I n)), (3, I q5p1_0), (4, .lsl 5 0 va5p1_0.length 1 none), (7, I q1_0), (8, I q5p1_0), (11, I n), (12, I ((i5p1 : Nat) : Int))], [(0, ⟨[.fn (.func 82) [] [.ptr (.agg [.sl e.items.nl (e.items.l.map S_Item.D) (zsl e.items.nl 4) none, I e.whole.lo, I e.whole.hi]), .ptr (I low), .ptr (I high)]], 1, false⟩), (1, ⟨[.fn (.func 90) [] [.ptr (.agg [.sl e.items.nl (e.items.l.map S_Item.D) (zsl e.items.nl 4) none, I e.whole.lo, I e.whole.hi])]], 1, false⟩), (2, ⟨[.sl true [] 0 none], 1, false⟩), (3, ⟨[B v1_0], 1, false⟩), (5, ⟨va5p1_0.map I, 1, false⟩)], 6, 5⟩

inductive LR_orders_lists_1_5p1 where
  | x0 (i5p1 : Nat) (va5p1_0 : List Int)
  | x1 (i5p1 : Nat)
instance : Inhabited LR_orders_lists_1_5p1 := ⟨.x0 default default⟩
def y0 (q5p1_0 : Int) : Nat → Nat → (List Int) → LR_orders_lists_1_5p1
  | 0, i5p1, va5p1_0 => .x0 i5p1 va5p1_0
  | rest5p1 + 1, i5p1, va5p1_0 =>
    bif ((w64 ((BitVec.ofInt 64 ((q5p1_0).fdiv (2 ^ (min (((i5p1 : Nat) : Int)).toNat 64))) &&& BitVec.ofInt 64 1).toNat : Int)) == 1) then
      y0 q5p1_0 rest5p1 (i5p1 + 1) (va5p1_0 ++ [((i5p1 : Nat) : Int)])
    else
      y0 q5p1_0 rest5p1 (i5p1 + 1) va5p1_0
def zX (q5p1_0 : Int) : Nat → Nat → LR_orders_lists_1_5p1
  | 0, i5p1 => .x1 i5p1
  | rest5p1 + 1, i5p1 =>
    bif ((w64 ((BitVec.ofInt 64 ((q5p1_0).fdiv (2 ^ (min (((i5p1 : Nat) : Int)).toNat 64))) &&& BitVec.ofInt 64 1).toNat : Int)) == 1) then
      y0 q5p1_0 rest5p1 (i5p1 + 1) [((i5p1 : Nat) : Int)]
    else
      zX q5p1_0 rest5p1 (i5p1 + 1)
def lr_orders_lists_1_5p1 (n : Int) (e : S_Estate) (low : Int) (high : Int) (q1_0 : Int) (v1_0 : Bool) (q5p1_0 : Int) : LR_orders_lists_1_5p1 → Exit × St × Option Code
  | .x0 i5p1 va5p1_0 => ((.exit 2), ⟨30, [(13, B false), (0, .yld 4), (1, .ptr (I n)), (3, I q5p1_0), (4, .lsl 5 0 va5p1_0.length 1 none), (7, I q1_0), (8, I q5p1_0), (11, I n), (12, I ((i5p1 : Nat) : Int))], [(0, ⟨[.fn (.func 82) [] [.ptr (.agg [.sl e.items.nl (e.items.l.map S_Item.D) (zsl e.items.nl 4) none, I e.whole.lo, I e.whole.hi]), .ptr (I low), .ptr (I high)]], 1, false⟩), (1, ⟨[.fn (.func 90) [] [.ptr (.agg [.sl e.items.nl (e.items.l.map S_Item.D) (zsl e.items.nl 4) none, I e.whole.lo, I e.whole.hi])]], 1, false⟩), (2, ⟨[.sl true [] 0 none], 1, false⟩), (3, ⟨[B v1_0], 1, false⟩), (5, ⟨va5p1_0.map I, 1, false⟩)], 6, 5⟩, none)
  | .x1 i5p1 => ((.exit 2), ⟨30, [(13, B false), (0, .yld 4), (1, .ptr (I n)), (3, I q5p1_0), (4, .sl true [] 0 none), (7, I q1_0), (8, I q5p1_0), (11, I n), (12, I ((i5p1 : Nat) : Int))], [(0, ⟨[.fn (.func 82) [] [.ptr (.agg [.sl e.items.nl (e.items.l.map S_Item.D) (zsl e.items.nl 4) none, I e.whole.lo, I e.whole.hi]), .ptr (I low), .ptr (I high)]], 1, false⟩), (1, ⟨[.fn (.func 90) [] [.ptr (.agg [.sl e.items.nl (e.items.l.map S_Item.D) (zsl e.items.nl 4) none, I e.whole.lo, I e.whole.hi])]], 1, false⟩), (2, ⟨[.sl true [] 0 none], 1, false⟩), (3, ⟨[B v1_0], 1, false⟩)], 5, 5⟩, none)
def iv_orders_lists_1_5p1 (n : Int) (e : S_Estate) (low : Int) (high : Int) (q1_0 : Int) (v1_0 : Bool) (q5p1_0 : Int) : LR_orders_lists_1_5p1 → Prop
  | .x0 i5p1 va5p1_0 => (∀ i ∈ va5p1_0, 0 ≤ i ∧ i < ((e.items.l.length : Nat) : Int)) ∧ (va5p1_0.length ≤ 12) ∧ (va5p1_0.length ≤ i5p1)
  | .x1 i5p1 => True
theorem lp_orders_lists_1_5p1a (n : Int) (e : S_Estate) (low : Int) (high : Int) (q1_0 : Int) (v1_0 : Bool) (q5p1_0 : Int) : ∀ (rest5p1 : Nat) (i5p1 : Nat) (va5p1_0 : List Int) (hk5p1 : (n - ((i5p1 : Nat) : Int)).toNat = rest5p1) (hN5p1 : n ≤ 9223372036854775807) (hm5p1_va5p1_0 : ∀ i ∈ va5p1_0, 0 ≤ i ∧ i < ((e.items.l.length : Nat) : Int)) (hz5p1_va5p1_0 : va5p1_0.length ≤ 12) (hn : n = ((e.items.l.length : Nat) : Int)) (hle : e.items.l.length ≤ 12) (hg5p1_va5p1_0 : va5p1_0.length ≤ i5p1) (hL5p1 : n ≤ 1099511627776), (lim cfg).loopY (rg20118 n e low high) 96 lp96_5 ⟨30, [(0, .yld 4), (1, .ptr (I n)), (3, I q5p1_0), (4, .lsl 5 0 va5p1_0.length 1 none), (7, I q1_0), (8, I q5p1_0), (11, I n), (12, I ((i5p1 : Nat) : Int))], [(0, ⟨[.fn (.func 82) [] [.ptr (.agg [.sl e.items.nl (e.items.l.map S_Item.D) (zsl e.items.nl 4) none, I e.whole.lo, I e.whole.hi]), .ptr (I low), .ptr (I high)]], 1, false⟩), (1, ⟨[.fn (.func 90) [] [.ptr (.agg [.sl e.items.nl (e.items.l.map S_Item.D) (zsl e.items.nl 4) none, I e.whole.lo, I e.whole.hi])]], 1, false⟩), (2, ⟨[.sl true [] 0 none], 1, false⟩), (3, ⟨[B v1_0], 1, false⟩), (5, ⟨va5p1_0.map I, 1, false⟩)], 6, 5⟩ = some (lr_orders_lists_1_5p1 n e low high q1_0 v1_0 q5p1_0 (y0 q5p1_0 rest5p1 i5p1 va5p1_0)) := by
  intro rest5p1
  induction rest5p1 with
  | zero =>
    intro i5p1 va5p1_0 hk5p1 hN5p1 hm5p1_va5p1_0 hz5p1_va5p1_0 hn hle hg5p1_va5p1_0 hL5p1
    unfold y0
    exact po_lastY [.dec false] (And.intro (ct_no hk5p1) trivial) (by kernel_rfl)
  | succ rest5p1 ih =>
    intro i5p1 va5p1_0 hk5p1 hN5p1 hm5p1_va5p1_0 hz5p1_va5p1_0 hn hle hg5p1_va5p1_0 hL5p1
    have hlt5p1 := of_decide_eq_true (ct_at hk5p1)
    unfold y0
    cases h30 : ((w64 ((BitVec.ofInt 64 ((q5p1_0).fdiv (2 ^ (min (((i5p1 : Nat) : Int)).toNat 64))) &&& BitVec.ofInt 64 1).toNat : Int)) == 1) with
    | true =>
      exact po_turnY' (ks := [0, 1, 3, 4, 7, 8, 11, 12]) (st' := (sd20139 n e low high q1_0 v1_0 i5p1 q5p1_0 va5p1_0)) [.dec true, .op (some 17) ⟨I ((q5p1_0).fdiv (2 ^ (min (((i5p1 : Nat) : Int)).toNat 64))), [], [], 6⟩, .dec true, .op (some 23) ⟨.lsl 7 0 ((va5p1_0 ++ [((i5p1 : Nat) : Int)]).length) 1 none, [(5, none), (7, some ⟨(va5p1_0 ++ [((i5p1 : Nat) : Int)]).map I, 1, false⟩)], [5, 6], 8⟩, .rw 24 (I ((i5p1 + 1 : Nat) : Int))] (And.intro (inc_rw (i := i5p1) (by first | assumption | omega)) (And.intro (app_row (f := I) (te := ty3) (gO := zy [(0, ⟨[.fn (.func 82) [] [.ptr (.agg [.sl e.items.nl (e.items.l.map S_Item.D) (zsl e.items.nl 4) none, I e.whole.lo, I e.whole.hi]), .ptr (I low), .ptr (I high)]], 1, false⟩), (1, ⟨[.fn (.func 90) [] [.ptr (.agg [.sl e.items.nl (e.items.l.map S_Item.D) (zsl e.items.nl 4) none, I e.whole.lo, I e.whole.hi])]], 1, false⟩), (2, ⟨[.sl true [] 0 none], 1, false⟩), (3, ⟨[B v1_0], 1, false⟩), (5, ⟨va5p1_0.map I, 1, false⟩), (6, ⟨[I ((i5p1 : Nat) : Int)], 1, false⟩)]) (nxt := 7) (o := 5) (o2 := 6) (fz := false) eok_I va5p1_0 ((i5p1 : Nat) : Int) (by kernel_rfl) (by kernel_rfl) rfl (by kernel_rfl) (by decide) ⟨by simp only [ty3, big] <;> (first | assumption | omega | (with_reducible exact zp) | (with_reducible exact Nat.le_trans zG (by omega)) | (with_reducible exact zF) | (with_reducible exact zE (by omega)) | (with_reducible exact zD (by assumption) (by omega)) | (simp only [ze] at * <;> omega) | (simp only [z9, z8, z7, z6, zd, GS.nil_len, GS.some_l, List.length_set, List.length_append, List.length_cons, List.length_nil] at * <;> first | with_reducible assumption | omega) | (simp only [z9, z8, z7, z6, zd, GS.nil_len, GS.some_l, List.length_set, List.length_append, List.length_cons, List.length_nil, ze] at * <;> first | with_reducible assumption | omega) | (simp at * <;> omega)), by simp only [big] <;> (first | assumption | omega | (with_reducible exact zp) | (with_reducible exact Nat.le_trans zG (by omega)) | (with_reducible exact zF) | (with_reducible exact zE (by omega)) | (with_reducible exact zD (by assumption) (by omega)) | (simp only [ze] at * <;> omega) | (simp only [z9, z8, z7, z6, zd, GS.nil_len, GS.some_l, List.length_set, List.length_append, List.length_cons, List.length_nil] at * <;> first | with_reducible assumption | omega) | (simp only [z9, z8, z7, z6, zd, GS.nil_len, GS.some_l, List.length_set, List.length_append, List.length_cons, List.length_nil, ze] at * <;> first | with_reducible assumption | omega) | (simp at * <;> omega))⟩) (And.intro h30 (And.intro (shr_op (C := cfg) (t := 3) (cst := false) (nxt := 6) (a := q5p1_0) (b := ((i5p1 : Nat) : Int)) (by first | assumption | omega)) (And.intro (ct_at hk5p1) trivial))))) (by kernel_rfl) (by (simp only [sd20139, go_sem, Nat.reduceAdd, Nat.reduceEqDiff, Nat.reduceLT, Nat.reduceLeDiff, bI2, eok_I.idsL, eok_I.renL, eok_I.snapAll, zj.idsL, zj.renL, zj.snapAll]) <;> rfl) (ih (i5p1 + 1) (va5p1_0 ++ [((i5p1 : Nat) : Int)]) (by omega) hN5p1 (by first | assumption | omega | (with_reducible exact zp) | (with_reducible exact Nat.le_trans zG (by omega)) | (with_reducible exact zF) | (with_reducible exact zE (by omega)) | (with_reducible exact zD (by assumption) (by omega)) | (simp only [ze] at * <;> omega) | (simp only [z9, z8, z7, z6, zd, GS.nil_len, GS.some_l, List.length_set, List.length_append, List.length_cons, List.length_nil] at * <;> first | with_reducible assumption | omega) | (simp only [z9, z8, z7, z6, zd, GS.nil_len, GS.some_l, List.length_set, List.length_append, List.length_cons, List.length_nil, ze] at * <;> first | with_reducible assumption | omega) | (simp at * <;> omega)) (by first | assumption | omega | (with_reducible exact zp) | (with_reducible exact Nat.le_trans zG (by omega)) | (with_reducible exact zF) | (with_reducible exact zE (by omega)) | (with_reducible exact zD (by assumption) (by omega)) | (simp only [ze] at * <;> omega) | (simp only [z9, z8, z7, z6, zd, GS.nil_len, GS.some_l, List.length_set, List.length_append, List.length_cons, List.length_nil] at * <;> first | with_reducible assumption | omega) | (simp only [z9, z8, z7, z6, zd, GS.nil_len, GS.some_l, List.length_set, List.length_append, List.length_cons, List.length_nil, ze] at * <;> first | with_reducible assumption | omega) | (simp at * <;> omega)) (by first | assumption | omega) (by first | assumption | omega) (by first | assumption | omega | (with_reducible exact zp) | (with_reducible exact Nat.le_trans zG (by omega)) | (with_reducible exact zF) | (with_reducible exact zE (by omega)) | (with_reducible exact zD (by assumption) (by omega)) | (simp only [ze] at * <;> omega) | (simp only [z9, z8, z7, z6, zd, GS.nil_len, GS.some_l, List.length_set, List.length_append, List.length_cons, List.length_nil] at * <;> first | with_reducible assumption | omega) | (simp only [z9, z8, z7, z6, zd, GS.nil_len, GS.some_l, List.length_set, List.length_append, List.length_cons, List.length_nil, ze] at * <;> first | with_reducible assumption | omega) | (simp at * <;> omega)) (by first | assumption | omega)) (by kernel_rfl)
    | false =>
      exact po_turnY' (ks := [0, 1, 3, 4, 7, 8, 11, 12]) (st' := (sd20140 n e low high q1_0 v1_0 i5p1 q5p1_0 va5p1_0)) [.dec true, .op (some 17) ⟨I ((q5p1_0).fdiv (2 ^ (min (((i5p1 : Nat) : Int)).toNat 64))), [], [], 6⟩, .dec false, .rw 24 (I ((i5p1 + 1 : Nat) : Int))] (And.intro (inc_rw (i := i5p1) (by first | assumption | omega)) (And.intro h30 (And.intro (shr_op (C := cfg) (t := 3) (cst := false) (nxt := 6) (a := q5p1_0) (b := ((i5p1 : Nat) : Int)) (by first | assumption | omega)) (And.intro (ct_at hk5p1) trivial)))) (by kernel_rfl) (by (simp only [sd20140, go_sem, Nat.reduceAdd, Nat.reduceEqDiff, Nat.reduceLT, Nat.reduceLeDiff, bI2, eok_I.idsL, eok_I.renL, eok_I.snapAll, zj.idsL, zj.renL, zj.snapAll]) <;> rfl) (ih (i5p1 + 1) va5p1_0 (by omega) hN5p1 (by first | assumption | omega) (by first | assumption | omega) (by first | assumption | omega) (by first | assumption | omega) (by first | assumption | omega) (by first | assumption | omega)) (by kernel_rfl)
theorem ivt_orders_lists_1_5p1a (n : Int) (e : S_Estate) (low : Int) (high : Int) (q1_0 : Int) (v1_0 : Bool) (q5p1_0 : Int) : ∀ (rest5p1 : Nat) (i5p1 : Nat) (va5p1_0 : List Int) (hk5p1 : (n - ((i5p1 : Nat) : Int)).toNat = rest5p1) (hN5p1 : n ≤ 9223372036854775807) (hm5p1_va5p1_0 : ∀ i ∈ va5p1_0, 0 ≤ i ∧ i < ((e.items.l.length : Nat) : Int)) (hz5p1_va5p1_0 : va5p1_0.length ≤ 12) (hn : n = ((e.items.l.length : Nat) : Int)) (hle : e.items.l.length ≤ 12) (hg5p1_va5p1_0 : va5p1_0.length ≤ i5p1) (hL5p1 : n ≤ 1099511627776), iv_orders_lists_1_5p1 n e low high q1_0 v1_0 q5p1_0 (y0 q5p1_0 rest5p1 i5p1 va5p1_0) := by
  intro rest5p1
  induction rest5p1 with
  | zero =>
    intro i5p1 va5p1_0 hk5p1 hN5p1 hm5p1_va5p1_0 hz5p1_va5p1_0 hn hle hg5p1_va5p1_0 hL5p1
    unfold y0
    exact ⟨hm5p1_va5p1_0, hz5p1_va5p1_0, hg5p1_va5p1_0⟩
  | succ rest5p1 ih =>
    intro i5p1 va5p1_0 hk5p1 hN5p1 hm5p1_va5p1_0 hz5p1_va5p1_0 hn hle hg5p1_va5p1_0 hL5p1
    have hlt5p1 := of_decide_eq_true (ct_at hk5p1)
    unfold y0
    cases h30 : ((w64 ((BitVec.ofInt 64 ((q5p1_0).fdiv (2 ^ (min (((i5p1 : Nat) : Int)).toNat 64))) &&& BitVec.ofInt 64 1).toNat : Int)) == 1) with
    | true =>
      exact ih (i5p1 + 1) (va5p1_0 ++ [((i5p1 : Nat) : Int)]) (by omega) hN5p1 (by first | assumption | omega | (with_reducible exact zp) | (with_reducible exact Nat.le_trans zG (by omega)) | (with_reducible exact zF) | (with_reducible exact zE (by omega)) | (with_reducible exact zD (by assumption) (by omega)) | (simp only [ze] at * <;> omega) | (simp only [z9, z8, z7, z6, zd, GS.nil_len, GS.some_l, List.length_set, List.length_append, List.length_cons, List.length_nil] at * <;> first | with_reducible assumption | omega) | (simp only [z9, z8, z7, z6, zd, GS.nil_len, GS.some_l, List.length_set, List.length_append, List.length_cons, List.length_nil, ze] at * <;> first | with_reducible assumption | omega) | (simp at * <;> omega)) (by first | assumption | omega | (with_reducible exact zp) | (with_reducible exact Nat.le_trans zG (by omega)) | (with_reducible exact zF) | (with_reducible exact zE (by omega)) | (with_reducible exact zD (by assumption) (by omega)) | (simp only [ze] at * <;> omega) | (simp only [z9, z8, z7, z6, zd, GS.nil_len, GS.some_l, List.length_set, List.length_append, List.length_cons, List.length_nil] at * <;> first | with_reducible assumption | omega) | (simp only [z9, z8, z7, z6, zd, GS.nil_len, GS.some_l, List.length_set, List.length_append, List.length_cons, List.length_nil, ze] at * <;> first | with_reducible assumption | omega) | (simp at * <;> omega)) (by first | assumption | omega) (by first | assumption | omega) (by first | assumption | omega | (with_reducible exact zp) | (with_reducible exact Nat.le_trans zG (by omega)) | (with_reducible exact zF) | (with_reducible exact zE (by omega)) | (with_reducible exact zD (by assumption) (by omega)) | (simp only [ze] at * <;> omega) | (simp only [z9, z8, z7, z6, zd, GS.nil_len, GS.some_l, List.length_set, List.length_append, List.length_cons, List.length_nil] at * <;> first | with_reducible assumption | omega) | (simp only [z9, z8, z7, z6, zd, GS.nil_len, GS.some_l, List.length_set, List.length_append, List.length_cons, List.length_nil, ze] at * <;> first | with_reducible assumption | omega) | (simp at * <;> omega)) (by first | assumption | omega)
    | false =>
      exact ih (i5p1 + 1) va5p1_0 (by omega) hN5p1 (by first | assumption | omega) (by first | assumption | omega) (by first | assumption | omega) (by first | assumption | omega) (by first | assumption | omega) (by first | assumption | omega)
theorem lp_orders_lists_1_5p1 (n : Int) (e : S_Estate) (low : Int) (high : Int) (q1_0 : Int) (v1_0 : Bool) (q5p1_0 : Int) : ∀ (rest5p1 : Nat) (i5p1 : Nat) (hk5p1 : (n - ((i5p1 : Nat) : Int)).toNat = rest5p1) (hN5p1 : n ≤ 9223372036854775807) (hn : n = ((e.items.l.length : Nat) : Int)) (hle : e.items.l.length ≤ 12) (hL5p1 : n ≤ 1099511627776), (lim cfg).loopY (rg20118 n e low high) 96 lp96_5 ⟨30, [(0, .yld 4), (1, .ptr (I n)), (3, I q5p1_0), (4, .sl true [] 0 none), (7, I q1_0), (8, I q5p1_0), (11, I n), (12, I ((i5p1 : Nat) : Int))], [(0, ⟨[.fn (.func 82) [] [.ptr (.agg [.sl e.items.nl (e.items.l.map S_Item.D) (zsl e.items.nl 4) none, I e.whole.lo, I e.whole.hi]), .ptr (I low), .ptr (I high)]], 1, false⟩), (1, ⟨[.fn (.func 90) [] [.ptr (.agg [.sl e.items.nl (e.items.l.map S_Item.D) (zsl e.items.nl 4) none, I e.whole.lo, I e.whole.hi])]], 1, false⟩), (2, ⟨[.sl true [] 0 none], 1, false⟩), (3, ⟨[B v1_0], 1, false⟩)], 5, 5⟩ = some (lr_orders_lists_1_5p1 n e low high q1_0 v1_0 q5p1_0 (zX q5p1_0 rest5p1 i5p1)) := by
  intro rest5p1
  induction rest5p1 with
  | zero =>
    intro i5p1 hk5p1 hN5p1 hn hle hL5p1
    unfold zX
    exact po_lastY [.dec false] (And.intro (ct_no hk5p1) trivial) (by kernel_rfl)
  | succ rest5p1 ih =>
    intro i5p1 hk5p1 hN5p1 hn hle hL5p1
    have hlt5p1 := of_decide_eq_true (ct_at hk5p1)
    unfold zX
    cases h31 : ((w64 ((BitVec.ofInt 64 ((q5p1_0).fdiv (2 ^ (min (((i5p1 : Nat) : Int)).toNat 64))) &&& BitVec.ofInt 64 1).toNat : Int)) == 1) with
    | true =>
      exact po_turnY [.dec true, .op (some 17) ⟨I ((q5p1_0).fdiv (2 ^ (min (((i5p1 : Nat) : Int)).toNat 64))), [], [], 5⟩, .dec true, .rw 24 (I ((i5p1 + 1 : Nat) : Int))] (And.intro (inc_rw (i := i5p1) (by first | assumption | omega)) (And.intro h31 (And.intro (shr_op (C := cfg) (t := 3) (cst := false) (nxt := 5) (a := q5p1_0) (b := ((i5p1 : Nat) : Int)) (by first | assumption | omega)) (And.intro (ct_at hk5p1) trivial)))) (lp_orders_lists_1_5p1a n e low high q1_0 v1_0 q5p1_0 _ (i5p1 + 1) [((i5p1 : Nat) : Int)] (by omega) hN5p1 (by first | assumption | omega | (with_reducible exact zp) | (with_reducible exact Nat.le_trans zG (by omega)) | (with_reducible exact zF) | (with_reducible exact zE (by omega)) | (with_reducible exact zD (by assumption) (by omega)) | (simp only [ze] at * <;> omega) | (simp only [z9, z8, z7, z6, zd, GS.nil_len, GS.some_l, List.length_set, List.length_append, List.length_cons, List.length_nil] at * <;> first | with_reducible assumption | omega) | (simp only [z9, z8, z7, z6, zd, GS.nil_len, GS.some_l, List.length_set, List.length_append, List.length_cons, List.length_nil, ze] at * <;> first | with_reducible assumption | omega) | (simp at * <;> omega)) (by first | assumption | omega | (with_reducible exact zp) | (with_reducible exact Nat.le_trans zG (by omega)) | (with_reducible exact zF) | (with_reducible exact zE (by omega)) | (with_reducible exact zD (by assumption) (by omega)) | (simp only [ze] at * <;> omega) | (simp only [z9, z8, z7, z6, zd, GS.nil_len, GS.some_l, List.length_set, List.length_append, List.length_cons, List.length_nil] at * <;> first | with_reducible assumption | omega) | (simp only [z9, z8, z7, z6, zd, GS.nil_len, GS.some_l, List.length_set, List.length_append, List.length_cons, List.length_nil, ze] at * <;> first | with_reducible assumption | omega) | (simp at * <;> omega)) (by first | assumption | omega) (by first | assumption | omega) (by first | assumption | omega | (with_reducible exact zp) | (with_reducible exact Nat.le_trans zG (by omega)) | (with_reducible exact zF) | (with_reducible exact zE (by omega)) | (with_reducible exact zD (by assumption) (by omega)) | (simp only [ze] at * <;> omega) | (simp only [z9, z8, z7, z6, zd, GS.nil_len, GS.some_l, List.length_set, List.length_append, List.length_cons, List.length_nil] at * <;> first | with_reducible assumption | omega) | (simp only [z9, z8, z7, z6, zd, GS.nil_len, GS.some_l, List.length_set, List.length_append, List.length_cons, List.length_nil, ze] at * <;> first | with_reducible assumption | omega) | (simp at * <;> omega)) (by first | assumption | omega)) (by kernel_rfl)
    | false =>
      exact po_turnY [.dec true, .op (some 17) ⟨I ((q5p1_0).fdiv (2 ^ (min (((i5p1 : Nat) : Int)).toNat 64))), [], [], 5⟩, .dec false, .rw 24 (I ((i5p1 + 1 : Nat) : Int))] (And.intro (inc_rw (i := i5p1) (by first | assumption | omega)) (And.intro h31 (And.intro (shr_op (C := cfg) (t := 3) (cst := false) (nxt := 5) (a := q5p1_0) (b := ((i5p1 : Nat) : Int)) (by first | assumption | omega)) (And.intro (ct_at hk5p1) trivial)))) (ih (i5p1 + 1) (by omega) hN5p1 (by first | assumption | omega) (by first | assumption | omega) (by first | assumption | omega)) (by kernel_rfl)
theorem ivt_orders_lists_1_5p1 (n : Int) (e : S_Estate) (low : Int) (high : Int) (q1_0 : Int) (v1_0 : Bool) (q5p1_0 : Int) : ∀ (rest5p1 : Nat) (i5p1 : Nat) (hk5p1 : (n - ((i5p1 : Nat) : Int)).toNat = rest5p1) (hN5p1 : n ≤ 9223372036854775807) (hn : n = ((e.items.l.length : Nat) : Int)) (hle : e.items.l.length ≤ 12) (hL5p1 : n ≤ 1099511627776), iv_orders_lists_1_5p1 n e low high q1_0 v1_0 q5p1_0 (zX q5p1_0 rest5p1 i5p1) := by
  intro rest5p1
  induction rest5p1 with
  | zero =>
    intro i5p1 hk5p1 hN5p1 hn hle hL5p1
    unfold zX
    exact trivial
  | succ rest5p1 ih =>
    intro i5p1 hk5p1 hN5p1 hn hle hL5p1
    have hlt5p1 := of_decide_eq_true (ct_at hk5p1)
    unfold zX
    cases h31 : ((w64 ((BitVec.ofInt 64 ((q5p1_0).fdiv (2 ^ (min (((i5p1 : Nat) : Int)).toNat 64))) &&& BitVec.ofInt 64 1).toNat : Int)) == 1) with
    | true =>
      exact ivt_orders_lists_1_5p1a n e low high q1_0 v1_0 q5p1_0 _ (i5p1 + 1) [((i5p1 : Nat) : Int)] (by omega) hN5p1 (by first | assumption | omega | (with_reducible exact zp) | (with_reducible exact Nat.le_trans zG (by omega)) | (with_reducible exact zF) | (with_reducible exact zE (by omega)) | (with_reducible exact zD (by assumption) (by omega)) | (simp only [ze] at * <;> omega) | (simp only [z9, z8, z7, z6, zd, GS.nil_len, GS.some_l, List.length_set, List.length_append, List.length_cons, List.length_nil] at * <;> first | with_reducible assumption | omega) | (simp only [z9, z8, z7, z6, zd, GS.nil_len, GS.some_l, List.length_set, List.length_append, List.length_cons, List.length_nil, ze] at * <;> first | with_reducible assumption | omega) | (simp at * <;> omega)) (by first | assumption | omega | (with_reducible exact zp) | (with_reducible exact Nat.le_trans zG (by omega)) | (with_reducible exact zF) | (with_reducible exact zE (by omega)) | (with_reducible exact zD (by assumption) (by omega)) | (simp only [ze] at * <;> omega) | (simp only [z9, z8, z7, z6, zd, GS.nil_len, GS.some_l, List.length_set, List.length_append, List.length_cons, List.length_nil] at * <;> first | with_reducible assumption | omega) | (simp only [z9, z8, z7, z6, zd, GS.nil_len, GS.some_l, List.length_set, List.length_append, List.length_cons, List.length_nil, ze] at * <;> first | with_reducible assumption | omega) | (simp at * <;> omega)) (by first | assumption | omega) (by first | assumption | omega) (by first | assumption | omega | (with_reducible exact zp) | (with_reducible exact Nat.le_trans zG (by omega)) | (with_reducible exact zF) | (with_reducible exact zE (by omega)) | (with_reducible exact zD (by assumption) (by omega)) | (simp only [ze] at * <;> omega) | (simp only [z9, z8, z7, z6, zd, GS.nil_len, GS.some_l, List.length_set, List.length_append, List.length_cons, List.length_nil] at * <;> first | with_reducible assumption | omega) | (simp only [z9, z8, z7, z6, zd, GS.nil_len, GS.some_l, List.length_set, List.length_append, List.length_cons, List.length_nil, ze] at * <;> first | with_reducible assumption | omega) | (simp at * <;> omega)) (by first | assumption | omega)
    | false =>
      exact ih (i5p1 + 1) (by omega) hN5p1 (by first | assumption | omega) (by first | assumption | omega) (by first | assumption | omega)


def sd20132 (n : Int) (e : S_Estate) (low : Int) (high : Int) (i1 : Nat) (q1_0 : Int) (va1_0 : List Int) : St := ⟨30, [(0, .yld 4), (1, .ptr (I n)), (3, I ((i1 : Nat) : Int)), (4, .sl true [] 0 none), (7, I q1_0), (8, I ((i1 : Nat) : Int)), (11, I n), (12, I 0)], [(0, ⟨[.fn (.func 82) [] [.ptr (.agg [.sl e.items.nl (e.items.l.map S_Item.D) (zsl e.items.nl 4) none, I e.whole.lo, I e.whole.hi]), .ptr (I low), .ptr (I high)]], 1, false⟩), (1, ⟨[.fn (.func 90) [] [.ptr (.agg [.sl e.items.nl (e.items.l.map S_Item.D) (zsl e.items.nl 4) none, I e.whole.lo, I e.whole.hi])]], 1, false⟩), (2, ⟨[.lsl 5 0 va1_0.length 1 none], 1, false⟩), (3, ⟨[B true], 1, false⟩), (5, ⟨va1_0.map I, 1, false⟩)], 6, 5⟩

def sd20138 (n : Int) (e : S_Estate) (low : Int) (high : Int) (i1 : Nat) (q1_0 : Int) (i5 : Nat) (va5_0 : List Int) (va5_1 : List Int) : St := ⟨30, [(13, B false), (0, .yld 4), (1, .ptr (I n)), (3, I ((i1 : Nat) : Int)), (4, .lsl 5 0 va5_0.length 1 none), (7, I q1_0), (8, I ((i1 : Nat) : Int)), (11, I n), (12, I ((i5 : Nat) : Int))], [(0, ⟨[.fn (.func 82) [] [.ptr (.agg [.sl e.items.nl (e.items.l.map S_Item.D) (zsl e.items.nl 4) none, I e.whole.lo, I e.whole.hi]), .ptr (I low), .ptr (I high)]], 1, false⟩), (1, ⟨[.fn (.func 90) [] [.ptr (.agg [.sl e.items.nl (e.items.l.map S_Item.D) (zsl e.items.nl 4) none, I e.whole.lo, I e.whole.hi])]], 1, false⟩), (2, ⟨[.lsl 6 0 va5_1.length 1 none], 1, false⟩), (3, ⟨[B true], 1, false⟩), (5, ⟨va5_0.map I, 1, false⟩), (6, ⟨va5_1.map I, 1, false⟩)], 7, 5⟩

noncomputable def lp96_1 : Code := subC [1, 0, 0] (bodyC Try.f96)

def sd20131 (n : Int) (e : S_Estate) (low : Int) (high : Int) (i1 : Nat) (q1_0 : Int) (va1_0 : List Int) : St := ⟨30, [(12, I 0), (11, I n), (4, .sl true [] 0 none), (3, I ((i1 : Nat) : Int)), (10, I ((i1 : Nat) : Int)), (9, B true), (0, .yld 4), (1, .ptr (I n)), (7, I q1_0), (8, I ((i1 : Nat) : Int))], [(0, ⟨[.fn (.func 82) [] [.ptr (.agg [.sl e.items.nl (e.items.l.map S_Item.D) (zsl e.items.nl 4) none, I e.whole.lo, I e.whole.hi]), .ptr (I low), .ptr (I high)]], 1, false⟩), (1, ⟨[.fn (.func 90) [] [.ptr (.agg [.sl e.items.nl (e.items.l.map S_Item.D) (zsl e.items.nl 4) none, I e.whole.lo, I e.whole.hi])]], 1, false⟩), (2, ⟨[.lsl 5 0 va1_0.length 1 none], 1, false⟩), (3, ⟨[B true], 1, false⟩), (5, ⟨va1_0.map I, 1, false⟩)], 6, 5⟩

def sd20143 (n : Int) (e : S_Estate) (low : Int) (high : Int) (i1 : Nat) (q1_0 : Int) (i5 : Nat) (va5_0 : List Int) (va5_1 : List Int) : St := ⟨30, [(8, I ((i1 + 1 : Nat) : Int)), (29, I ((i1 + 1 : Nat) : Int)), (28, B false), (27, B true), (26, .lsl 5 0 va5_0.length 1 none), (25, .yld 4), (13, B false), (0, .yld 4), (1, .ptr (I n)), (3, I ((i1 : Nat) : Int)), (4, .lsl 5 0 va5_0.length 1 none), (7, I q1_0), (8, I ((i1 : Nat) : Int)), (11, I n), (12, I ((i5 : Nat) : Int))], [(0, ⟨[.fn (.func 82) [] [.ptr (.agg [.sl e.items.nl (e.items.l.map S_Item.D) (zsl e.items.nl 4) none, I e.whole.lo, I e.whole.hi]), .ptr (I low), .ptr (I high)]], 1, false⟩), (1, ⟨[.fn (.func 90) [] [.ptr (.agg [.sl e.items.nl (e.items.l.map S_Item.D) (zsl e.items.nl 4) none, I e.whole.lo, I e.whole.hi])]], 1, false⟩), (2, ⟨[.lsl 5 0 va5_0.length 1 none], 1, false⟩), (3, ⟨[B true], 1, false⟩), (5, ⟨va5_0.map I, 1, false⟩), (6, ⟨va5_1.map I, 1, false⟩)], 7, 5⟩

def sd20144 (n : Int) (e : S_Estate) (low : Int) (high : Int) (i1 : Nat) (q1_0 : Int) (i5 : Nat) (va5_0 : List Int) (va5_1 : List Int) : St := ⟨30, [(8, I ((i1 + 1 : Nat) : Int)), (29, I ((i1 + 1 : Nat) : Int)), (28, B false), (27, B true), (26, .lsl 5 0 va5_0.length 1 none), (25, .yld 4), (13, B false), (0, .yld 4), (1, .ptr (I n)), (3, I ((i1 : Nat) : Int)), (4, .lsl 5 0 va5_0.length 1 none), (7, I q1_0), (8, I ((i1 : Nat) : Int)), (11, I n), (12, I ((i5 : Nat) : Int))], [(0, ⟨[.fn (.func 82) [] [.ptr (.agg [.sl e.items.nl (e.items.l.map S_Item.D) (zsl e.items.nl 4) none, I e.whole.lo, I e.whole.hi]), .ptr (I low), .ptr (I high)]], 1, false⟩), (1, ⟨[.fn (.func 90) [] [.ptr (.agg [.sl e.items.nl (e.items.l.map S_Item.D) (zsl e.items.nl 4) none, I e.whole.lo, I e.whole.hi])]], 1, false⟩), (2, ⟨[.lsl 6 0 va5_1.length 1 none], 1, false⟩), (3, ⟨[B true], 1, false⟩), (5, ⟨va5_0.map I, 1, false⟩), (6, ⟨va5_1.map I, 1, false⟩)], 7, 5⟩

def sd20141 (n : Int) (e : S_Estate) (low : Int) (high : Int) (i1 : Nat) (q1_0 : Int) (v1_0 : Bool) (i5p1 : Nat) (va5p1_0 : List Int) : St := ⟨30, [(13, B false), (0, .yld 4), (1, .ptr (I n)), (3, I ((i1 : Nat) : Int)), (4, .lsl 5 0 va5p1_0.length 1 none), (7, I q1_0), (8, I ((i1 : Nat) : Int)), (11, I n), (12, I ((i5p1 : Nat) : Int))], [(0, ⟨[.fn (.func 82) [] [.ptr (.agg [.sl e.items.nl (e.items.l.map S_Item.D) (zsl e.items.nl 4) none, I e.whole.lo, I e.whole.hi]), .ptr (I low), .ptr (I high)]], 1, false⟩), (1, ⟨[.fn (.func 90) [] [.ptr (.agg [.sl e.items.nl (e.items.l.map S_Item.D) (zsl e.items.nl 4) none, I e.whole.lo, I e.whole.hi])]], 1, false⟩), (2, ⟨[.sl true [] 0 none], 1, false⟩), (3, ⟨[B v1_0], 1, false⟩), (5, ⟨va5p1_0.map I, 1, false⟩)], 6, 5⟩

def sd20142 (n : Int) (e : S_Estate) (low : Int) (high : Int) (i1 : Nat) (q1_0 : Int) (v1_0 : Bool) (i5p1 : Nat) : St := ⟨30, [(13, B false), (0, .yld 4), (1, .ptr (I n)), (3, I ((i1 : Nat) : Int)), (4, .sl true [] 0 none), (7, I q1_0), (8, I ((i1 : Nat) : Int)), (11, I n), (12, I ((i5p1 : Nat) : Int))], [(0, ⟨[.fn (.func 82) [] [.ptr (.agg [.sl e.items.nl (e.items.l.map S_Item.D) (zsl e.items.nl 4) none, I e.whole.lo, I e.whole.hi]), .ptr (I low), .ptr (I high)]], 1, false⟩), (1, ⟨[.fn (.func 90) [] [.ptr (.agg [.sl e.items.nl (e.items.l.map S_Item.D) (zsl e.items.nl 4) none, I e.whole.lo, I e.whole.hi])]], 1, false⟩), (2, ⟨[.sl true [] 0 none], 1, false⟩), (3, ⟨[B v1_0], 1, false⟩)], 5, 5⟩

def sd20145 (n : Int) (e : S_Estate) (low : Int) (high : Int) (i1 : Nat) (q1_0 : Int) (i5p1 : Nat) (va5p1_0 : List Int) : St := ⟨30, [(8, I ((i1 + 1 : Nat) : Int)), (29, I ((i1 + 1 : Nat) : Int)), (28, B false), (27, B true), (26, .lsl 5 0 va5p1_0.length 1 none), (25, .yld 4), (13, B false), (0, .yld 4), (1, .ptr (I n)), (3, I ((i1 : Nat) : Int)), (4, .lsl 5 0 va5p1_0.length 1 none), (7, I q1_0), (8, I ((i1 : Nat) : Int)), (11, I n), (12, I ((i5p1 : Nat) : Int))], [(0, ⟨[.fn (.func 82) [] [.ptr (.agg [.sl e.items.nl (e.items.l.map S_Item.D) (zsl e.items.nl 4) none, I e.whole.lo, I e.whole.hi]), .ptr (I low), .ptr (I high)]], 1, false⟩), (1, ⟨[.fn (.func 90) [] [.ptr (.agg [.sl e.items.nl (e.items.l.map S_Item.D) (zsl e.items.nl 4) none, I e.whole.lo, I e.whole.hi])]], 1, false⟩), (2, ⟨[.lsl 5 0 va5p1_0.length 1 none], 1, false⟩), (3, ⟨[B true], 1, false⟩), (5, ⟨va5p1_0.map I, 1, false⟩)], 6, 5⟩

def sd20146 (n : Int) (e : S_Estate) (low : Int) (high : Int) (i1 : Nat) (q1_0 : Int) (v1_0 : Bool) (i5p1 : Nat) (va5p1_0 : List Int) : St := ⟨30, [(8, I ((i1 + 1 : Nat) : Int)), (29, I ((i1 + 1 : Nat) : Int)), (28, B false), (27, B true), (26, .lsl 5 0 va5p1_0.length 1 none), (25, .yld 4), (13, B false), (0, .yld 4), (1, .ptr (I n)), (3, I ((i1 : Nat) : Int)), (4, .lsl 5 0 va5p1_0.length 1 none), (7, I q1_0), (8, I ((i1 : Nat) : Int)), (11, I n), (12, I ((i5p1 : Nat) : Int))], [(0, ⟨[.fn (.func 82) [] [.ptr (.agg [.sl e.items.nl (e.items.l.map S_Item.D) (zsl e.items.nl 4) none, I e.whole.lo, I e.whole.hi]), .ptr (I low), .ptr (I high)]], 1, false⟩), (1, ⟨[.fn (.func 90) [] [.ptr (.agg [.sl e.items.nl (e.items.l.map S_Item.D) (zsl e.items.nl 4) none, I e.whole.lo, I e.whole.hi])]], 1, false⟩), (2, ⟨[.sl true [] 0 none], 1, false⟩), (3, ⟨[B v1_0], 1, false⟩), (5, ⟨va5p1_0.map I, 1, false⟩)], 6, 5⟩

inductive LR_orders_lists_1_1 where
  | x0 (i1 : Nat) (va1_0 : List Int)
  | x1 (i1 : Nat) (v1_0 : Bool)
instance : Inhabited LR_orders_lists_1_1 := ⟨.x0 default default⟩
def zV (n : Int) (e : S_Estate) (low : Int) (high : Int) : Nat → Nat → (List Int) → LR_orders_lists_1_1
  | 0, i1, va1_0 => .x0 i1 va1_0
  | rest1 + 1, i1, va1_0 =>
    match zP va1_0 ((i1 : Nat) : Int) (n - 0).toNat 0 with
    | .x0 i5 va5_0 va5_1 =>
      bif decide ((zu (GS.some va5_0) (GS.some va5_1) e) < 0) then
        bif (zm (GS.some va5_0) e low high) then
          zV n e low high rest1 (i1 + 1) va5_0
        else
          zV n e low high rest1 (i1 + 1) va5_1
      else
        zV n e low high rest1 (i1 + 1) va5_1
    | .x1 _ =>
      default
def zC (n : Int) (e : S_Estate) (low : Int) (high : Int) : Nat → Nat → Bool → LR_orders_lists_1_1
  | 0, i1, v1_0 => .x1 i1 v1_0
  | rest1 + 1, i1, v1_0 =>
    match zX ((i1 : Nat) : Int) (n - 0).toNat 0 with
    | .x0 i5p1 va5p1_0 =>
      bif v1_0 then
        bif decide ((zu (GS.some va5p1_0) GS.nil e) < 0) then
          bif (zm (GS.some va5p1_0) e low high) then
            zV n e low high rest1 (i1 + 1) va5p1_0
          else
            zC n e low high rest1 (i1 + 1) v1_0
        else
          zC n e low high rest1 (i1 + 1) v1_0
      else
        bif (zm (GS.some va5p1_0) e low high) then
          zV n e low high rest1 (i1 + 1) va5p1_0
        else
          zC n e low high rest1 (i1 + 1) v1_0
    | .x1 i5p1 =>
      bif v1_0 then
        bif decide ((zu GS.nil GS.nil e) < 0) then
          bif (zm GS.nil e low high) then
            zC n e low high rest1 (i1 + 1) true
          else
            zC n e low high rest1 (i1 + 1) v1_0
        else
          zC n e low high rest1 (i1 + 1) v1_0
      else
        bif (zm GS.nil e low high) then
          zC n e low high rest1 (i1 + 1) true
        else
          zC n e low high rest1 (i1 + 1) v1_0
def lr_orders_lists_1_1 (n : Int) (e : S_Estate) (low : Int) (high : Int) (q1_0 : Int) : LR_orders_lists_1_1 → Exit × St × Option Code
  | .x0 i1 va1_0 => ((.exit 0), ⟨30, [(9, B false), (0, .yld 4), (1, .ptr (I n)), (7, I q1_0), (8, I ((i1 : Nat) : Int))], [(0, ⟨[.fn (.func 82) [] [.ptr (.agg [.sl e.items.nl (e.items.l.map S_Item.D) (zsl e.items.nl 4) none, I e.whole.lo, I e.whole.hi]), .ptr (I low), .ptr (I high)]], 1, false⟩), (1, ⟨[.fn (.func 90) [] [.ptr (.agg [.sl e.items.nl (e.items.l.map S_Item.D) (zsl e.items.nl 4) none, I e.whole.lo, I e.whole.hi])]], 1, false⟩), (2, ⟨[.lsl 5 0 va1_0.length 1 none], 1, false⟩), (3, ⟨[B true], 1, false⟩), (5, ⟨va1_0.map I, 1, false⟩)], 6, 5⟩, none)
  | .x1 i1 v1_0 => ((.exit 0), ⟨30, [(9, B false), (0, .yld 4), (1, .ptr (I n)), (7, I q1_0), (8, I ((i1 : Nat) : Int))], [(0, ⟨[.fn (.func 82) [] [.ptr (.agg [.sl e.items.nl (e.items.l.map S_Item.D) (zsl e.items.nl 4) none, I e.whole.lo, I e.whole.hi]), .ptr (I low), .ptr (I high)]], 1, false⟩), (1, ⟨[.fn (.func 90) [] [.ptr (.agg [.sl e.items.nl (e.items.l.map S_Item.D) (zsl e.items.nl 4) none, I e.whole.lo, I e.whole.hi])]], 1, false⟩), (2, ⟨[.sl true [] 0 none], 1, false⟩), (3, ⟨[B v1_0], 1, false⟩)], 5, 5⟩, none)
def iv_orders_lists_1_1 (n : Int) (e : S_Estate) (low : Int) (high : Int) (q1_0 : Int) : LR_orders_lists_1_1 → Prop
  | .x0 i1 va1_0 => (∀ i ∈ va1_0, 0 ≤ i ∧ i < ((e.items.l.length : Nat) : Int)) ∧ (va1_0.length ≤ 12)
  | .x1 i1 v1_0 => True
def orders_lists_1_1a_c_o1 (n : Int) (e : S_Estate) (low : Int) (high : Int) (i1 : Nat) (q1_0 : Int) (i5 : Nat) (va5_0 : List Int) (va1_0 : List Int) (va5_1 : List Int) : List Ora := [.dec true, .gloopY (sd20132 n e low high i1 q1_0 va1_0) (.exit 2) (sd20138 n e low high i1 q1_0 i5 va5_0 va5_1) none, .dec true, .pureS (I (zu (GS.some va5_0) (GS.some va5_1) e)) true [(5, .sl false (va5_0.map I) 1 none, [5]), (6, .sl false (va5_1.map I) 1 none, [6])]]
theorem lp_orders_lists_1_1a (n : Int) (e : S_Estate) (low : Int) (high : Int) (q1_0 : Int) : ∀ (rest1 : Nat) (i1 : Nat) (va1_0 : List Int) (hk1 : (q1_0 - ((i1 : Nat) : Int)).toNat = rest1) (hN1 : q1_0 ≤ 9223372036854775807) (hm1_va1_0 : ∀ i ∈ va1_0, 0 ≤ i ∧ i < ((e.items.l.length : Nat) : Int)) (hz1_va1_0 : va1_0.length ≤ 12) (hx1 : 1 ≤ i1) (hq1 : q1_0 = w64 (1 * 2 ^ (min (n).toNat 64))) (hn : n = ((e.items.l.length : Nat) : Int)) (hle : e.items.l.length ≤ 12), (lim cfg).loopY (rg20118 n e low high) 96 lp96_1 ⟨30, [(0, .yld 4), (1, .ptr (I n)), (7, I q1_0), (8, I ((i1 : Nat) : Int))], [(0, ⟨[.fn (.func 82) [] [.ptr (.agg [.sl e.items.nl (e.items.l.map S_Item.D) (zsl e.items.nl 4) none, I e.whole.lo, I e.whole.hi]), .ptr (I low), .ptr (I high)]], 1, false⟩), (1, ⟨[.fn (.func 90) [] [.ptr (.agg [.sl e.items.nl (e.items.l.map S_Item.D) (zsl e.items.nl 4) none, I e.whole.lo, I e.whole.hi])]], 1, false⟩), (2, ⟨[.lsl 5 0 va1_0.length 1 none], 1, false⟩), (3, ⟨[B true], 1, false⟩), (5, ⟨va1_0.map I, 1, false⟩)], 6, 5⟩ = some (lr_orders_lists_1_1 n e low high q1_0 (zV n e low high rest1 i1 va1_0)) := by
  intro rest1
  induction rest1 with
  | zero =>
    intro i1 va1_0 hk1 hN1 hm1_va1_0 hz1_va1_0 hx1 hq1 hn hle
    unfold zV
    exact po_lastY [.dec false] (And.intro (ct_no hk1) trivial) (by kernel_rfl)
  | succ rest1 ih =>
    intro i1 va1_0 hk1 hN1 hm1_va1_0 hz1_va1_0 hx1 hq1 hn hle
    have hlt1 := of_decide_eq_true (ct_at hk1)
    unfold zV
    have p1 := (gc_of (C := cfg) (f := 96) (a := lp96_5) (ks := [0, 1, 3, 4, 7, 8, 11, 12]) (st := (sd20131 n e low high i1 q1_0 va1_0)) (st1 := (sd20132 n e low high i1 q1_0 va1_0)) (by kernel_rfl) (by (simp only [sd20131, sd20132, go_sem, Nat.reduceAdd, Nat.reduceEqDiff, Nat.reduceLT, Nat.reduceLeDiff, bI2, eok_I.idsL, eok_I.renL, eok_I.snapAll, zj.idsL, zj.renL, zj.snapAll]) <;> rfl))
    cases h25 : zP va1_0 ((i1 : Nat) : Int) (n - 0).toNat 0 with
    | x0 i5 va5_0 va5_1 =>
      try dsimp only
      have hv_h25 := ivt_orders_lists_1_5 n e low high q1_0 va1_0 ((i1 : Nat) : Int) (n - 0).toNat 0 (by omega) (by first | assumption | omega) (by first | assumption | omega) (by first | assumption | omega) (by first | assumption | omega) (by first | assumption | omega) (by first | assumption | omega)
      rw [h25] at hv_h25
      obtain ⟨hv_h25_0, hv_h25_1, hv_h25_2, hv_h25_3, hv_h25_4⟩ := hv_h25
      try dsimp only [zZ] at hv_h25_0
      try dsimp only [zZ] at hv_h25_1
      try dsimp only [zZ] at hv_h25_2
      try dsimp only [zZ] at hv_h25_3
      try dsimp only [zZ] at hv_h25_4
      have p2 := (po_lrY (q := lr_orders_lists_1_5 n e low high q1_0 va1_0 ((i1 : Nat) : Int)) (lp_orders_lists_1_5 n e low high q1_0 va1_0 ((i1 : Nat) : Int) (n - 0).toNat 0 (by omega) (by first | assumption | omega) (by first | assumption | omega) (by first | assumption | omega) (by first | assumption | omega) (by first | assumption | omega) (by first | assumption | omega)) h25)
      have p3 := (And.intro (show flat fuelD (I (zu (GS.some va5_0) (GS.some va5_1) e)) = true from (by kernel_rfl)) (And.intro (And.intro (snap_row (gO := zy [(0, ⟨[.fn (.func 82) [] [.ptr (.agg [.sl e.items.nl (e.items.l.map S_Item.D) (zsl e.items.nl 4) none, I e.whole.lo, I e.whole.hi]), .ptr (I low), .ptr (I high)]], 1, false⟩), (1, ⟨[.fn (.func 90) [] [.ptr (.agg [.sl e.items.nl (e.items.l.map S_Item.D) (zsl e.items.nl 4) none, I e.whole.lo, I e.whole.hi])]], 1, false⟩), (2, ⟨[.lsl 6 0 va5_1.length 1 none], 1, false⟩), (3, ⟨[B true], 1, false⟩), (5, ⟨va5_0.map I, 1, false⟩), (6, ⟨va5_1.map I, 1, false⟩)]) (o := 6) (len := va5_1.length) (cap := none) (fz := false) eok_I va5_1 (by kernel_rfl) (by first | assumption | omega)) (And.intro (snap_row (gO := zy [(0, ⟨[.fn (.func 82) [] [.ptr (.agg [.sl e.items.nl (e.items.l.map S_Item.D) (zsl e.items.nl 4) none, I e.whole.lo, I e.whole.hi]), .ptr (I low), .ptr (I high)]], 1, false⟩), (1, ⟨[.fn (.func 90) [] [.ptr (.agg [.sl e.items.nl (e.items.l.map S_Item.D) (zsl e.items.nl 4) none, I e.whole.lo, I e.whole.hi])]], 1, false⟩), (2, ⟨[.lsl 6 0 va5_1.length 1 none], 1, false⟩), (3, ⟨[B true], 1, false⟩), (5, ⟨va5_0.map I, 1, false⟩), (6, ⟨va5_1.map I, 1, false⟩)]) (o := 5) (len := va5_0.length) (cap := none) (fz := false) eok_I va5_0 (by kernel_rfl) (by first | assumption | omega)) trivial)) (T_orders_cheapest_1 (GS.some va5_0) (GS.some va5_1) e (by first | assumption | omega) (by first | assumption | omega) (by first | assumption | omega | (with_reducible exact zp) | (with_reducible exact Nat.le_trans zG (by omega)) | (with_reducible exact zF) | (with_reducible exact zE (by omega)) | (with_reducible exact zD (by assumption) (by omega)) | (simp only [ze] at * <;> omega) | (simp only [z9, z8, z7, z6, zd, GS.nil_len, GS.some_l, List.length_set, List.length_append, List.length_cons, List.length_nil] at * <;> first | with_reducible assumption | omega) | (simp only [z9, z8, z7, z6, zd, GS.nil_len, GS.some_l, List.length_set, List.length_append, List.length_cons, List.length_nil, ze] at * <;> first | with_reducible assumption | omega) | (simp at * <;> omega)) (by first | assumption | omega | (with_reducible exact zp) | (with_reducible exact Nat.le_trans zG (by omega)) | (with_reducible exact zF) | (with_reducible exact zE (by omega)) | (with_reducible exact zD (by assumption) (by omega)) | (simp only [ze] at * <;> omega) | (simp only [z9, z8, z7, z6, zd, GS.nil_len, GS.some_l, List.length_set, List.length_append, List.length_cons, List.length_nil] at * <;> first | with_reducible assumption | omega) | (simp only [z9, z8, z7, z6, zd, GS.nil_len, GS.some_l, List.length_set, List.length_append, List.length_cons, List.length_nil, ze] at * <;> first | with_reducible assumption | omega) | (simp at * <;> omega)))))
      cases h26 : decide ((zu (GS.some va5_0) (GS.some va5_1) e) < 0) with
      | true =>
        have g26 := of_decide_eq_true h26
        have p4 := (And.intro (show flat fuelD (B (zm (GS.some va5_0) e low high)) = true from (by kernel_rfl)) (And.intro (And.intro (snap_row (gO := zy [(0, ⟨[.fn (.func 82) [] [.ptr (.agg [.sl e.items.nl (e.items.l.map S_Item.D) (zsl e.items.nl 4) none, I e.whole.lo, I e.whole.hi]), .ptr (I low), .ptr (I high)]], 1, false⟩), (1, ⟨[.fn (.func 90) [] [.ptr (.agg [.sl e.items.nl (e.items.l.map S_Item.D) (zsl e.items.nl 4) none, I e.whole.lo, I e.whole.hi])]], 1, false⟩), (2, ⟨[.lsl 6 0 va5_1.length 1 none], 1, false⟩), (3, ⟨[B true], 1, false⟩), (5, ⟨va5_0.map I, 1, false⟩), (6, ⟨va5_1.map I, 1, false⟩)]) (o := 5) (len := va5_0.length) (cap := none) (fz := false) eok_I va5_0 (by kernel_rfl) (by first | assumption | omega)) trivial) (T_orders_Cheapest_1 (GS.some va5_0) e low high (by first | assumption | omega) (by first | assumption | omega | (with_reducible exact zp) | (with_reducible exact Nat.le_trans zG (by omega)) | (with_reducible exact zF) | (with_reducible exact zE (by omega)) | (with_reducible exact zD (by assumption) (by omega)) | (simp only [ze] at * <;> omega) | (simp only [z9, z8, z7, z6, zd, GS.nil_len, GS.some_l, List.length_set, List.length_append, List.length_cons, List.length_nil] at * <;> first | with_reducible assumption | omega) | (simp only [z9, z8, z7, z6, zd, GS.nil_len, GS.some_l, List.length_set, List.length_append, List.length_cons, List.length_nil, ze] at * <;> first | with_reducible assumption | omega) | (simp at * <;> omega)) (by first | assumption | omega))))
        cases h27 : (zm (GS.some va5_0) e low high) with
        | true =>
          exact po_turnY' (ks := [0, 1, 7, 8]) (st' := (sd20143 n e low high i1 q1_0 i5 va5_0 va5_1)) ((orders_lists_1_1a_c_o1 n e low high i1 q1_0 i5 va5_0 va1_0 va5_1) ++ [.dec true, .pureS (B (zm (GS.some va5_0) e low high)) true [(5, .sl false (va5_0.map I) 1 none, [5])], .dec true, .rw 29 (I ((i1 + 1 : Nat) : Int))]) (And.intro (inc_rw (i := i1) (by first | assumption | omega)) (And.intro h27 (And.intro p4 (And.intro h26 (And.intro p3 (And.intro (Eq.refl true) (And.intro p2 (And.intro p1 (And.intro (ct_at hk1) trivial))))))))) (by kernel_rfl) (by (simp only [sd20143, go_sem, Nat.reduceAdd, Nat.reduceEqDiff, Nat.reduceLT, Nat.reduceLeDiff, bI2, eok_I.idsL, eok_I.renL, eok_I.snapAll, zj.idsL, zj.renL, zj.snapAll]) <;> rfl) (ih (i1 + 1) va5_0 (by omega) hN1 (by first | assumption | omega) (by first | assumption | omega) (by first | assumption | omega) (by first | assumption | omega) (by first | assumption | omega) (by first | assumption | omega)) (by kernel_rfl)
        | false =>
          exact po_turnY' (ks := [0, 1, 7, 8]) (st' := (sd20144 n e low high i1 q1_0 i5 va5_0 va5_1)) ((orders_lists_1_1a_c_o1 n e low high i1 q1_0 i5 va5_0 va1_0 va5_1) ++ [.dec true, .pureS (B (zm (GS.some va5_0) e low high)) true [(5, .sl false (va5_0.map I) 1 none, [5])], .dec false, .rw 29 (I ((i1 + 1 : Nat) : Int))]) (And.intro (inc_rw (i := i1) (by first | assumption | omega)) (And.intro h27 (And.intro p4 (And.intro h26 (And.intro p3 (And.intro (Eq.refl true) (And.intro p2 (And.intro p1 (And.intro (ct_at hk1) trivial))))))))) (by kernel_rfl) (by (simp only [sd20144, go_sem, Nat.reduceAdd, Nat.reduceEqDiff, Nat.reduceLT, Nat.reduceLeDiff, bI2, eok_I.idsL, eok_I.renL, eok_I.snapAll, zj.idsL, zj.renL, zj.snapAll]) <;> rfl) (ih (i1 + 1) va5_1 (by omega) hN1 (by first | assumption | omega) (by first | assumption | omega) (by first | assumption | omega) (by first | assumption | omega) (by first | assumption | omega) (by first | assumption | omega)) (by kernel_rfl)
      | false =>
        have g26 := of_decide_eq_false h26
        exact po_turnY' (ks := [0, 1, 7, 8]) (st' := (sd20144 n e low high i1 q1_0 i5 va5_0 va5_1)) ((orders_lists_1_1a_c_o1 n e low high i1 q1_0 i5 va5_0 va1_0 va5_1) ++ [.dec false, .rw 29 (I ((i1 + 1 : Nat) : Int))]) (And.intro (inc_rw (i := i1) (by first | assumption | omega)) (And.intro h26 (And.intro p3 (And.intro (Eq.refl true) (And.intro p2 (And.intro p1 (And.intro (ct_at hk1) trivial))))))) (by kernel_rfl) (by (simp only [sd20144, go_sem, Nat.reduceAdd, Nat.reduceEqDiff, Nat.reduceLT, Nat.reduceLeDiff, bI2, eok_I.idsL, eok_I.renL, eok_I.snapAll, zj.idsL, zj.renL, zj.snapAll]) <;> rfl) (ih (i1 + 1) va5_1 (by omega) hN1 (by first | assumption | omega) (by first | assumption | omega) (by first | assumption | omega) (by first | assumption | omega) (by first | assumption | omega) (by first | assumption | omega)) (by kernel_rfl)
    | x1 _ =>
      exact absurd hx1 (nz_orders_lists_1_5 va1_0 hn hle (by rw [← hq1]; exact hlt1) h25)
theorem ivt_orders_lists_1_1a (n : Int) (e : S_Estate) (low : Int) (high : Int) (q1_0 : Int) : ∀ (rest1 : Nat) (i1 : Nat) (va1_0 : List Int) (hk1 : (q1_0 - ((i1 : Nat) : Int)).toNat = rest1) (hN1 : q1_0 ≤ 9223372036854775807) (hm1_va1_0 : ∀ i ∈ va1_0, 0 ≤ i ∧ i < ((e.items.l.length : Nat) : Int)) (hz1_va1_0 : va1_0.length ≤ 12) (hx1 : 1 ≤ i1) (hq1 : q1_0 = w64 (1 * 2 ^ (min (n).toNat 64))) (hn : n = ((e.items.l.length : Nat) : Int)) (hle : e.items.l.length ≤ 12), iv_orders_lists_1_1 n e low high q1_0 (zV n e low high rest1 i1 va1_0) := by
  intro rest1
  induction rest1 with
  | zero =>
    intro i1 va1_0 hk1 hN1 hm1_va1_0 hz1_va1_0 hx1 hq1 hn hle
    unfold zV
    exact ⟨hm1_va1_0, hz1_va1_0⟩
  | succ rest1 ih =>
    intro i1 va1_0 hk1 hN1 hm1_va1_0 hz1_va1_0 hx1 hq1 hn hle
    have hlt1 := of_decide_eq_true (ct_at hk1)
    unfold zV
    cases h25 : zP va1_0 ((i1 : Nat) : Int) (n - 0).toNat 0 with
    | x0 i5 va5_0 va5_1 =>
      try dsimp only
      have hv_h25 := ivt_orders_lists_1_5 n e low high q1_0 va1_0 ((i1 : Nat) : Int) (n - 0).toNat 0 (by omega) (by first | assumption | omega) (by first | assumption | omega) (by first | assumption | omega) (by first | assumption | omega) (by first | assumption | omega) (by first | assumption | omega)
      rw [h25] at hv_h25
      obtain ⟨hv_h25_0, hv_h25_1, hv_h25_2, hv_h25_3, hv_h25_4⟩ := hv_h25
      try dsimp only [zZ] at hv_h25_0
      try dsimp only [zZ] at hv_h25_1
      try dsimp only [zZ] at hv_h25_2
      try dsimp only [zZ] at hv_h25_3
      try dsimp only [zZ] at hv_h25_4
      cases h26 : decide ((zu (GS.some va5_0) (GS.some va5_1) e) < 0) with
      | true =>
        have g26 := of_decide_eq_true h26
        cases h27 : (zm (GS.some va5_0) e low high) with
        | true =>
          exact ih (i1 + 1) va5_0 (by omega) hN1 (by first | assumption | omega) (by first | assumption | omega) (by first | assumption | omega) (by first | assumption | omega) (by first | assumption | omega) (by first | assumption | omega)
        | false =>
          exact ih (i1 + 1) va5_1 (by omega) hN1 (by first | assumption | omega) (by first | assumption | omega) (by first | assumption | omega) (by first | assumption | omega) (by first | assumption | omega) (by first | assumption | omega)
      | false =>
        have g26 := of_decide_eq_false h26
        exact ih (i1 + 1) va5_1 (by omega) hN1 (by first | assumption | omega) (by first | assumption | omega) (by first | assumption | omega) (by first | assumption | omega) (by first | assumption | omega) (by first | assumption | omega)
    | x1 _ =>
      exact absurd hx1 (nz_orders_lists_1_5 va1_0 hn hle (by rw [← hq1]; exact hlt1) h25)
def orders_lists_1_1_c_o1 (n : Int) (e : S_Estate) (low : Int) (high : Int) (i1 : Nat) (q1_0 : Int) (v1_0 : Bool) (i5p1 : Nat) (va5p1_0 : List Int) : List Ora := [.dec true, .loopY (.exit 2) (sd20141 n e low high i1 q1_0 v1_0 i5p1 va5p1_0) none, .dec true, .pureS (I (zu (GS.some va5p1_0) GS.nil e)) true [(5, .sl false (va5p1_0.map I) 1 none, [5])]]
def orders_lists_1_1_c_o2 (n : Int) (e : S_Estate) (low : Int) (high : Int) (i1 : Nat) (q1_0 : Int) (v1_0 : Bool) (i5p1 : Nat) (va5p1_0 : List Int) : List Ora := [.dec true, .loopY (.exit 2) (sd20141 n e low high i1 q1_0 v1_0 i5p1 va5p1_0) none, .dec false, .pureS (B (zm (GS.some va5p1_0) e low high)) true [(5, .sl false (va5p1_0.map I) 1 none, [5])]]
def orders_lists_1_1_c_o3 (n : Int) (e : S_Estate) (low : Int) (high : Int) (i1 : Nat) (q1_0 : Int) (v1_0 : Bool) (i5p1 : Nat) : List Ora := [.dec true, .loopY (.exit 2) (sd20142 n e low high i1 q1_0 v1_0 i5p1) none, .dec true, .pure (I (zu GS.nil GS.nil e))]
def orders_lists_1_1_c_o4 (n : Int) (e : S_Estate) (low : Int) (high : Int) (i1 : Nat) (q1_0 : Int) (v1_0 : Bool) (i5p1 : Nat) : List Ora := [.dec true, .loopY (.exit 2) (sd20142 n e low high i1 q1_0 v1_0 i5p1) none, .dec false, .pure (B (zm GS.nil e low high))]
theorem lp_orders_lists_1_1 (n : Int) (e : S_Estate) (low : Int) (high : Int) (q1_0 : Int) : ∀ (rest1 : Nat) (i1 : Nat) (v1_0 : Bool) (hk1 : (q1_0 - ((i1 : Nat) : Int)).toNat = rest1) (hN1 : q1_0 ≤ 9223372036854775807) (hq1 : q1_0 = w64 (1 * 2 ^ (min (n).toNat 64))) (hn : n = ((e.items.l.length : Nat) : Int)) (hle : e.items.l.length ≤ 12), (lim cfg).loopY (rg20118 n e low high) 96 lp96_1 ⟨30, [(0, .yld 4), (1, .ptr (I n)), (7, I q1_0), (8, I ((i1 : Nat) : Int))], [(0, ⟨[.fn (.func 82) [] [.ptr (.agg [.sl e.items.nl (e.items.l.map S_Item.D) (zsl e.items.nl 4) none, I e.whole.lo, I e.whole.hi]), .ptr (I low), .ptr (I high)]], 1, false⟩), (1, ⟨[.fn (.func 90) [] [.ptr (.agg [.sl e.items.nl (e.items.l.map S_Item.D) (zsl e.items.nl 4) none, I e.whole.lo, I e.whole.hi])]], 1, false⟩), (2, ⟨[.sl true [] 0 none], 1, false⟩), (3, ⟨[B v1_0], 1, false⟩)], 5, 5⟩ = some (lr_orders_lists_1_1 n e low high q1_0 (zC n e low high rest1 i1 v1_0)) := by
  intro rest1
  induction rest1 with
  | zero =>
    intro i1 v1_0 hk1 hN1 hq1 hn hle
    unfold zC
    exact po_lastY [.dec false] (And.intro (ct_no hk1) trivial) (by kernel_rfl)
  | succ rest1 ih =>
    intro i1 v1_0 hk1 hN1 hq1 hn hle
    have hlt1 := of_decide_eq_true (ct_at hk1)
    unfold zC
    cases h32 : zX ((i1 : Nat) : Int) (n - 0).toNat 0 with
    | x0 i5p1 va5p1_0 =>
      try dsimp only
      have hv_h32 := ivt_orders_lists_1_5p1 n e low high q1_0 v1_0 ((i1 : Nat) : Int) (n - 0).toNat 0 (by omega) (by first | assumption | omega) (by first | assumption | omega) (by first | assumption | omega) (by first | assumption | omega)
      rw [h32] at hv_h32
      obtain ⟨hv_h32_0, hv_h32_1, hv_h32_2⟩ := hv_h32
      try dsimp only [iv_orders_lists_1_5p1] at hv_h32_0
      try dsimp only [iv_orders_lists_1_5p1] at hv_h32_1
      try dsimp only [iv_orders_lists_1_5p1] at hv_h32_2
      have p1 := (po_lrY (q := lr_orders_lists_1_5p1 n e low high q1_0 v1_0 ((i1 : Nat) : Int)) (lp_orders_lists_1_5p1 n e low high q1_0 v1_0 ((i1 : Nat) : Int) (n - 0).toNat 0 (by omega) (by first | assumption | omega) (by first | assumption | omega) (by first | assumption | omega) (by first | assumption | omega)) h32)
      rcases Bool.eq_false_or_eq_true v1_0 with h33 | h33
      · rw [cond_t h33]
        have p2 := (And.intro (show flat fuelD (I (zu (GS.some va5p1_0) GS.nil e)) = true from (by kernel_rfl)) (And.intro (And.intro (snap_row (gO := zy [(0, ⟨[.fn (.func 82) [] [.ptr (.agg [.sl e.items.nl (e.items.l.map S_Item.D) (zsl e.items.nl 4) none, I e.whole.lo, I e.whole.hi]), .ptr (I low), .ptr (I high)]], 1, false⟩), (1, ⟨[.fn (.func 90) [] [.ptr (.agg [.sl e.items.nl (e.items.l.map S_Item.D) (zsl e.items.nl 4) none, I e.whole.lo, I e.whole.hi])]], 1, false⟩), (2, ⟨[.sl true [] 0 none], 1, false⟩), (3, ⟨[B v1_0], 1, false⟩), (5, ⟨va5p1_0.map I, 1, false⟩)]) (o := 5) (len := va5p1_0.length) (cap := none) (fz := false) eok_I va5p1_0 (by kernel_rfl) (by first | assumption | omega)) trivial) (T_orders_cheapest_1 (GS.some va5p1_0) GS.nil e (by first | assumption | omega) (by first | assumption | omega | (with_reducible exact zp) | (with_reducible exact Nat.le_trans zG (by omega)) | (with_reducible exact zF) | (with_reducible exact zE (by omega)) | (with_reducible exact zD (by assumption) (by omega)) | (simp only [ze] at * <;> omega) | (simp only [z9, z8, z7, z6, zd, GS.nil_len, GS.some_l, List.length_set, List.length_append, List.length_cons, List.length_nil] at * <;> first | with_reducible assumption | omega) | (simp only [z9, z8, z7, z6, zd, GS.nil_len, GS.some_l, List.length_set, List.length_append, List.length_cons, List.length_nil, ze] at * <;> first | with_reducible assumption | omega) | (simp at * <;> omega)) (by first | assumption | omega | (with_reducible exact zp) | (with_reducible exact Nat.le_trans zG (by omega)) | (with_reducible exact zF) | (with_reducible exact zE (by omega)) | (with_reducible exact zD (by assumption) (by omega)) | (simp only [ze] at * <;> omega) | (simp only [z9, z8, z7, z6, zd, GS.nil_len, GS.some_l, List.length_set, List.length_append, List.length_cons, List.length_nil] at * <;> first | with_reducible assumption | omega) | (simp only [z9, z8, z7, z6, zd, GS.nil_len, GS.some_l, List.length_set, List.length_append, List.length_cons, List.length_nil, ze] at * <;> first | with_reducible assumption | omega) | (simp at * <;> omega)) (by first | assumption | omega | (with_reducible exact zp) | (with_reducible exact Nat.le_trans zG (by omega)) | (with_reducible exact zF) | (with_reducible exact zE (by omega)) | (with_reducible exact zD (by assumption) (by omega)) | (simp only [ze] at * <;> omega) | (simp only [z9, z8, z7, z6, zd, GS.nil_len, GS.some_l, List.length_set, List.length_append, List.length_cons, List.length_nil] at * <;> first | with_reducible assumption | omega) | (simp only [z9, z8, z7, z6, zd, GS.nil_len, GS.some_l, List.length_set, List.length_append, List.length_cons, List.length_nil, ze] at * <;> first | with_reducible assumption | omega) | (simp at * <;> omega)))))
        cases h34 : decide ((zu (GS.some va5p1_0) GS.nil e) < 0) with
        | true =>
          have g34 := of_decide_eq_true h34
          have p3 := (And.intro (show flat fuelD (B (zm (GS.some va5p1_0) e low high)) = true from (by kernel_rfl)) (And.intro (And.intro (snap_row (gO := zy [(0, ⟨[.fn (.func 82) [] [.ptr (.agg [.sl e.items.nl (e.items.l.map S_Item.D) (zsl e.items.nl 4) none, I e.whole.lo, I e.whole.hi]), .ptr (I low), .ptr (I high)]], 1, false⟩), (1, ⟨[.fn (.func 90) [] [.ptr (.agg [.sl e.items.nl (e.items.l.map S_Item.D) (zsl e.items.nl 4) none, I e.whole.lo, I e.whole.hi])]], 1, false⟩), (2, ⟨[.sl true [] 0 none], 1, false⟩), (3, ⟨[B v1_0], 1, false⟩), (5, ⟨va5p1_0.map I, 1, false⟩)]) (o := 5) (len := va5p1_0.length) (cap := none) (fz := false) eok_I va5p1_0 (by kernel_rfl) (by first | assumption | omega)) trivial) (T_orders_Cheapest_1 (GS.some va5p1_0) e low high (by first | assumption | omega) (by first | assumption | omega | (with_reducible exact zp) | (with_reducible exact Nat.le_trans zG (by omega)) | (with_reducible exact zF) | (with_reducible exact zE (by omega)) | (with_reducible exact zD (by assumption) (by omega)) | (simp only [ze] at * <;> omega) | (simp only [z9, z8, z7, z6, zd, GS.nil_len, GS.some_l, List.length_set, List.length_append, List.length_cons, List.length_nil] at * <;> first | with_reducible assumption | omega) | (simp only [z9, z8, z7, z6, zd, GS.nil_len, GS.some_l, List.length_set, List.length_append, List.length_cons, List.length_nil, ze] at * <;> first | with_reducible assumption | omega) | (simp at * <;> omega)) (by first | assumption | omega))))
          cases h35 : (zm (GS.some va5p1_0) e low high) with
          | true =>
            exact po_turnY' (ks := [0, 1, 7, 8]) (st' := (sd20145 n e low high i1 q1_0 i5p1 va5p1_0)) ((orders_lists_1_1_c_o1 n e low high i1 q1_0 v1_0 i5p1 va5p1_0) ++ [.dec true, .pureS (B (zm (GS.some va5p1_0) e low high)) true [(5, .sl false (va5p1_0.map I) 1 none, [5])], .dec true, .rw 29 (I ((i1 + 1 : Nat) : Int))]) (And.intro (inc_rw (i := i1) (by first | assumption | omega)) (And.intro h35 (And.intro p3 (And.intro h34 (And.intro p2 (And.intro h33 (And.intro p1 (And.intro (ct_at hk1) trivial)))))))) (by kernel_rfl) (by (simp only [sd20145, go_sem, Nat.reduceAdd, Nat.reduceEqDiff, Nat.reduceLT, Nat.reduceLeDiff, bI2, eok_I.idsL, eok_I.renL, eok_I.snapAll, zj.idsL, zj.renL, zj.snapAll]) <;> rfl) (lp_orders_lists_1_1a n e low high q1_0 _ (i1 + 1) va5p1_0 (by omega) hN1 (by first | assumption | omega) (by first | assumption | omega) (by first | assumption | omega) (by first | assumption | omega) (by first | assumption | omega) (by first | assumption | omega)) (by kernel_rfl)
          | false =>
            exact po_turnY' (ks := [0, 1, 7, 8]) (st' := (sd20146 n e low high i1 q1_0 v1_0 i5p1 va5p1_0)) ((orders_lists_1_1_c_o1 n e low high i1 q1_0 v1_0 i5p1 va5p1_0) ++ [.dec true, .pureS (B (zm (GS.some va5p1_0) e low high)) true [(5, .sl false (va5p1_0.map I) 1 none, [5])], .dec false, .rw 29 (I ((i1 + 1 : Nat) : Int))]) (And.intro (inc_rw (i := i1) (by first | assumption | omega)) (And.intro h35 (And.intro p3 (And.intro h34 (And.intro p2 (And.intro h33 (And.intro p1 (And.intro (ct_at hk1) trivial)))))))) (by kernel_rfl) (by (simp only [sd20146, go_sem, Nat.reduceAdd, Nat.reduceEqDiff, Nat.reduceLT, Nat.reduceLeDiff, bI2, eok_I.idsL, eok_I.renL, eok_I.snapAll, zj.idsL, zj.renL, zj.snapAll]) <;> rfl) (ih (i1 + 1) v1_0 (by omega) hN1 (by first | assumption | omega) (by first | assumption | omega) (by first | assumption | omega)) (by kernel_rfl)
        | false =>
          have g34 := of_decide_eq_false h34
          exact po_turnY' (ks := [0, 1, 7, 8]) (st' := (sd20146 n e low high i1 q1_0 v1_0 i5p1 va5p1_0)) ((orders_lists_1_1_c_o1 n e low high i1 q1_0 v1_0 i5p1 va5p1_0) ++ [.dec false, .rw 29 (I ((i1 + 1 : Nat) : Int))]) (And.intro (inc_rw (i := i1) (by first | assumption | omega)) (And.intro h34 (And.intro p2 (And.intro h33 (And.intro p1 (And.intro (ct_at hk1) trivial)))))) (by kernel_rfl) (by (simp only [sd20146, go_sem, Nat.reduceAdd, Nat.reduceEqDiff, Nat.reduceLT, Nat.reduceLeDiff, bI2, eok_I.idsL, eok_I.renL, eok_I.snapAll, zj.idsL, zj.renL, zj.snapAll]) <;> rfl) (ih (i1 + 1) v1_0 (by omega) hN1 (by first | assumption | omega) (by first | assumption | omega) (by first | assumption | omega)) (by kernel_rfl)
      · rw [cond_f h33]
        have p4 := (And.intro (show flat fuelD (B (zm (GS.some va5p1_0) e low high)) = true from (by kernel_rfl)) (And.intro (And.intro (snap_row (gO := zy [(0, ⟨[.fn (.func 82) [] [.ptr (.agg [.sl e.items.nl (e.items.l.map S_Item.D) (zsl e.items.nl 4) none, I e.whole.lo, I e.whole.hi]), .ptr (I low), .ptr (I high)]], 1, false⟩), (1, ⟨[.fn (.func 90) [] [.ptr (.agg [.sl e.items.nl (e.items.l.map S_Item.D) (zsl e.items.nl 4) none, I e.whole.lo, I e.whole.hi])]], 1, false⟩), (2, ⟨[.sl true [] 0 none], 1, false⟩), (3, ⟨[B v1_0], 1, false⟩), (5, ⟨va5p1_0.map I, 1, false⟩)]) (o := 5) (len := va5p1_0.length) (cap := none) (fz := false) eok_I va5p1_0 (by kernel_rfl) (by first | assumption | omega)) trivial) (T_orders_Cheapest_1 (GS.some va5p1_0) e low high (by first | assumption | omega) (by first | assumption | omega | (with_reducible exact zp) | (with_reducible exact Nat.le_trans zG (by omega)) | (with_reducible exact zF) | (with_reducible exact zE (by omega)) | (with_reducible exact zD (by assumption) (by omega)) | (simp only [ze] at * <;> omega) | (simp only [z9, z8, z7, z6, zd, GS.nil_len, GS.some_l, List.length_set, List.length_append, List.length_cons, List.length_nil] at * <;> first | with_reducible assumption | omega) | (simp only [z9, z8, z7, z6, zd, GS.nil_len, GS.some_l, List.length_set, List.length_append, List.length_cons, List.length_nil, ze] at * <;> first | with_reducible assumption | omega) | (simp at * <;> omega)) (by first | assumption | omega))))
        cases h36 : (zm (GS.some va5p1_0) e low high) with
        | true =>
          exact po_turnY' (ks := [0, 1, 7, 8]) (st' := (sd20145 n e low high i1 q1_0 i5p1 va5p1_0)) ((orders_lists_1_1_c_o2 n e low high i1 q1_0 v1_0 i5p1 va5p1_0) ++ [.dec true, .rw 29 (I ((i1 + 1 : Nat) : Int))]) (And.intro (inc_rw (i := i1) (by first | assumption | omega)) (And.intro h36 (And.intro p4 (And.intro h33 (And.intro p1 (And.intro (ct_at hk1) trivial)))))) (by kernel_rfl) (by (simp only [sd20145, go_sem, Nat.reduceAdd, Nat.reduceEqDiff, Nat.reduceLT, Nat.reduceLeDiff, bI2, eok_I.idsL, eok_I.renL, eok_I.snapAll, zj.idsL, zj.renL, zj.snapAll]) <;> rfl) (lp_orders_lists_1_1a n e low high q1_0 _ (i1 + 1) va5p1_0 (by omega) hN1 (by first | assumption | omega) (by first | assumption | omega) (by first | assumption | omega) (by first | assumption | omega) (by first | assumption | omega) (by first | assumption | omega)) (by kernel_rfl)
        | false =>
          exact po_turnY' (ks := [0, 1, 7, 8]) (st' := (sd20146 n e low high i1 q1_0 v1_0 i5p1 va5p1_0)) ((orders_lists_1_1_c_o2 n e low high i1 q1_0 v1_0 i5p1 va5p1_0) ++ [.dec false, .rw 29 (I ((i1 + 1 : Nat) : Int))]) (And.intro (inc_rw (i := i1) (by first | assumption | omega)) (And.intro h36 (And.intro p4 (And.intro h33 (And.intro p1 (And.intro (ct_at hk1) trivial)))))) (by kernel_rfl) (by (simp only [sd20146, go_sem, Nat.reduceAdd, Nat.reduceEqDiff, Nat.reduceLT, Nat.reduceLeDiff, bI2, eok_I.idsL, eok_I.renL, eok_I.snapAll, zj.idsL, zj.renL, zj.snapAll]) <;> rfl) (ih (i1 + 1) v1_0 (by omega) hN1 (by first | assumption | omega) (by first | assumption | omega) (by first | assumption | omega)) (by kernel_rfl)
    | x1 i5p1 =>
      try dsimp only
      have p5 := (po_lrY (q := lr_orders_lists_1_5p1 n e low high q1_0 v1_0 ((i1 : Nat) : Int)) (lp_orders_lists_1_5p1 n e low high q1_0 v1_0 ((i1 : Nat) : Int) (n - 0).toNat 0 (by omega) (by first | assumption | omega) (by first | assumption | omega) (by first | assumption | omega) (by first | assumption | omega)) h32)
      rcases Bool.eq_false_or_eq_true v1_0 with h37 | h37
      · rw [cond_t h37]
        have p6 := (T_orders_cheapest_1 GS.nil GS.nil e (by first | assumption | omega | (with_reducible exact zp) | (with_reducible exact Nat.le_trans zG (by omega)) | (with_reducible exact zF) | (with_reducible exact zE (by omega)) | (with_reducible exact zD (by assumption) (by omega)) | (simp only [ze] at * <;> omega) | (simp only [z9, z8, z7, z6, zd, GS.nil_len, GS.some_l, List.length_set, List.length_append, List.length_cons, List.length_nil] at * <;> first | with_reducible assumption | omega) | (simp only [z9, z8, z7, z6, zd, GS.nil_len, GS.some_l, List.length_set, List.length_append, List.length_cons, List.length_nil, ze] at * <;> first | with_reducible assumption | omega) | (simp at * <;> omega)) (by first | assumption | omega | (with_reducible exact zp) | (with_reducible exact Nat.le_trans zG (by omega)) | (with_reducible exact zF) | (with_reducible exact zE (by omega)) | (with_reducible exact zD (by assumption) (by omega)) | (simp only [ze] at * <;> omega) | (simp only [z9, z8, z7, z6, zd, GS.nil_len, GS.some_l, List.length_set, List.length_append, List.length_cons, List.length_nil] at * <;> first | with_reducible assumption | omega) | (simp only [z9, z8, z7, z6, zd, GS.nil_len, GS.some_l, List.length_set, List.length_append, List.length_cons, List.length_nil, ze] at * <;> first | with_reducible assumption | omega) | (simp at * <;> omega)) (by first | assumption | omega | (with_reducible exact zp) | (with_reducible exact Nat.le_trans zG (by omega)) | (with_reducible exact zF) | (with_reducible exact zE (by omega)) | (with_reducible exact zD (by assumption) (by omega)) | (simp only [ze] at * <;> omega) | (simp only [z9, z8, z7, z6, zd, GS.nil_len, GS.some_l, List.length_set, List.length_append, List.length_cons, List.length_nil] at * <;> first | with_reducible assumption | omega) | (simp only [z9, z8, z7, z6, zd, GS.nil_len, GS.some_l, List.length_set, List.length_append, List.length_cons, List.length_nil, ze] at * <;> first | with_reducible assumption | omega) | (simp at * <;> omega)) (by first | assumption | omega | (with_reducible exact zp) | (with_reducible exact Nat.le_trans zG (by omega)) | (with_reducible exact zF) | (with_reducible exact zE (by omega)) | (with_reducible exact zD (by assumption) (by omega)) | (simp only [ze] at * <;> omega) | (simp only [z9, z8, z7, z6, zd, GS.nil_len, GS.some_l, List.length_set, List.length_append, List.length_cons, List.length_nil] at * <;> first | with_reducible assumption | omega) | (simp only [z9, z8, z7, z6, zd, GS.nil_len, GS.some_l, List.length_set, List.length_append, List.length_cons, List.length_nil, ze] at * <;> first | with_reducible assumption | omega) | (simp at * <;> omega)))
        cases h38 : decide ((zu GS.nil GS.nil e) < 0) with
        | true =>
          have g38 := of_decide_eq_true h38
          have p7 := (T_orders_Cheapest_1 GS.nil e low high (by first | assumption | omega | (with_reducible exact zp) | (with_reducible exact Nat.le_trans zG (by omega)) | (with_reducible exact zF) | (with_reducible exact zE (by omega)) | (with_reducible exact zD (by assumption) (by omega)) | (simp only [ze] at * <;> omega) | (simp only [z9, z8, z7, z6, zd, GS.nil_len, GS.some_l, List.length_set, List.length_append, List.length_cons, List.length_nil] at * <;> first | with_reducible assumption | omega) | (simp only [z9, z8, z7, z6, zd, GS.nil_len, GS.some_l, List.length_set, List.length_append, List.length_cons, List.length_nil, ze] at * <;> first | with_reducible assumption | omega) | (simp at * <;> omega)) (by first | assumption | omega | (with_reducible exact zp) | (with_reducible exact Nat.le_trans zG (by omega)) | (with_reducible exact zF) | (with_reducible exact zE (by omega)) | (with_reducible exact zD (by assumption) (by omega)) | (simp only [ze] at * <;> omega) | (simp only [z9, z8, z7, z6, zd, GS.nil_len, GS.some_l, List.length_set, List.length_append, List.length_cons, List.length_nil] at * <;> first | with_reducible assumption | omega) | (simp only [z9, z8, z7, z6, zd, GS.nil_len, GS.some_l, List.length_set, List.length_append, List.length_cons, List.length_nil, ze] at * <;> first | with_reducible assumption | omega) | (simp at * <;> omega)) (by first | assumption | omega))
          cases h39 : (zm GS.nil e low high) with
          | true =>
            exact po_turnY ((orders_lists_1_1_c_o3 n e low high i1 q1_0 v1_0 i5p1) ++ [.dec true, .pure (B (zm GS.nil e low high)), .dec true, .rw 29 (I ((i1 + 1 : Nat) : Int))]) (And.intro (inc_rw (i := i1) (by first | assumption | omega)) (And.intro h39 (And.intro p7 (And.intro h38 (And.intro p6 (And.intro h37 (And.intro p5 (And.intro (ct_at hk1) trivial)))))))) (ih (i1 + 1) true (by omega) hN1 (by first | assumption | omega) (by first | assumption | omega) (by first | assumption | omega)) (by kernel_rfl)
          | false =>
            exact po_turnY ((orders_lists_1_1_c_o3 n e low high i1 q1_0 v1_0 i5p1) ++ [.dec true, .pure (B (zm GS.nil e low high)), .dec false, .rw 29 (I ((i1 + 1 : Nat) : Int))]) (And.intro (inc_rw (i := i1) (by first | assumption | omega)) (And.intro h39 (And.intro p7 (And.intro h38 (And.intro p6 (And.intro h37 (And.intro p5 (And.intro (ct_at hk1) trivial)))))))) (ih (i1 + 1) v1_0 (by omega) hN1 (by first | assumption | omega) (by first | assumption | omega) (by first | assumption | omega)) (by kernel_rfl)
        | false =>
          have g38 := of_decide_eq_false h38
          exact po_turnY ((orders_lists_1_1_c_o3 n e low high i1 q1_0 v1_0 i5p1) ++ [.dec false, .rw 29 (I ((i1 + 1 : Nat) : Int))]) (And.intro (inc_rw (i := i1) (by first | assumption | omega)) (And.intro h38 (And.intro p6 (And.intro h37 (And.intro p5 (And.intro (ct_at hk1) trivial)))))) (ih (i1 + 1) v1_0 (by omega) hN1 (by first | assumption | omega) (by first | assumption | omega) (by first | assumption | omega)) (by kernel_rfl)
      · rw [cond_f h37]
        have p8 := (T_orders_Cheapest_1 GS.nil e low high (by first | assumption | omega | (with_reducible exact zp) | (with_reducible exact Nat.le_trans zG (by omega)) | (with_reducible exact zF) | (with_reducible exact zE (by omega)) | (with_reducible exact zD (by assumption) (by omega)) | (simp only [ze] at * <;> omega) | (simp only [z9, z8, z7, z6, zd, GS.nil_len, GS.some_l, List.length_set, List.length_append, List.length_cons, List.length_nil] at * <;> first | with_reducible assumption | omega) | (simp only [z9, z8, z7, z6, zd, GS.nil_len, GS.some_l, List.length_set, List.length_append, List.length_cons, List.length_nil, ze] at * <;> first | with_reducible assumption | omega) | (simp at * <;> omega)) (by first | assumption | omega | (with_reducible exact zp) | (with_reducible exact Nat.le_trans zG (by omega)) | (with_reducible exact zF) | (with_reducible exact zE (by omega)) | (with_reducible exact zD (by assumption) (by omega)) | (simp only [ze] at * <;> omega) | (simp only [z9, z8, z7, z6, zd, GS.nil_len, GS.some_l, List.length_set, List.length_append, List.length_cons, List.length_nil] at * <;> first | with_reducible assumption | omega) | (simp only [z9, z8, z7, z6, zd, GS.nil_len, GS.some_l, List.length_set, List.length_append, List.length_cons, List.length_nil, ze] at * <;> first | with_reducible assumption | omega) | (simp at * <;> omega)) (by first | assumption | omega))
        cases h40 : (zm GS.nil e low high) with
        | true =>
          exact po_turnY ((orders_lists_1_1_c_o4 n e low high i1 q1_0 v1_0 i5p1) ++ [.dec true, .rw 29 (I ((i1 + 1 : Nat) : Int))]) (And.intro (inc_rw (i := i1) (by first | assumption | omega)) (And.intro h40 (And.intro p8 (And.intro h37 (And.intro p5 (And.intro (ct_at hk1) trivial)))))) (ih (i1 + 1) true (by omega) hN1 (by first | assumption | omega) (by first | assumption | omega) (by first | assumption | omega)) (by kernel_rfl)
        | false =>
          exact po_turnY ((orders_lists_1_1_c_o4 n e low high i1 q1_0 v1_0 i5p1) ++ [.dec false, .rw 29 (I ((i1 + 1 : Nat) : Int))]) (And.intro (inc_rw (i := i1) (by first | assumption | omega)) (And.intro h40 (And.intro p8 (And.intro h37 (And.intro p5 (And.intro (ct_at hk1) trivial)))))) (ih (i1 + 1) v1_0 (by omega) hN1 (by first | assumption | omega) (by first | assumption | omega) (by first | assumption | omega)) (by kernel_rfl)
theorem ivt_orders_lists_1_1 (n : Int) (e : S_Estate) (low : Int) (high : Int) (q1_0 : Int) : ∀ (rest1 : Nat) (i1 : Nat) (v1_0 : Bool) (hk1 : (q1_0 - ((i1 : Nat) : Int)).toNat = rest1) (hN1 : q1_0 ≤ 9223372036854775807) (hq1 : q1_0 = w64 (1 * 2 ^ (min (n).toNat 64))) (hn : n = ((e.items.l.length : Nat) : Int)) (hle : e.items.l.length ≤ 12), iv_orders_lists_1_1 n e low high q1_0 (zC n e low high rest1 i1 v1_0) := by
  intro rest1
  induction rest1 with
  | zero =>
    intro i1 v1_0 hk1 hN1 hq1 hn hle
    unfold zC
    exact trivial
  | succ rest1 ih =>
    intro i1 v1_0 hk1 hN1 hq1 hn hle
    have hlt1 := of_decide_eq_true (ct_at hk1)
    unfold zC
    cases h32 : zX ((i1 : Nat) : Int) (n - 0).toNat 0 with
    | x0 i5p1 va5p1_0 =>
      try dsimp only
      have hv_h32 := ivt_orders_lists_1_5p1 n e low high q1_0 v1_0 ((i1 : Nat) : Int) (n - 0).toNat 0 (by omega) (by first | assumption | omega) (by first | assumption | omega) (by first | assumption | omega) (by first | assumption | omega)
      rw [h32] at hv_h32
      obtain ⟨hv_h32_0, hv_h32_1, hv_h32_2⟩ := hv_h32
      try dsimp only [iv_orders_lists_1_5p1] at hv_h32_0
      try dsimp only [iv_orders_lists_1_5p1] at hv_h32_1
      try dsimp only [iv_orders_lists_1_5p1] at hv_h32_2
      rcases Bool.eq_false_or_eq_true v1_0 with h33 | h33
      · rw [cond_t h33]
        cases h34 : decide ((zu (GS.some va5p1_0) GS.nil e) < 0) with
        | true =>
          have g34 := of_decide_eq_true h34
          cases h35 : (zm (GS.some va5p1_0) e low high) with
          | true =>
            exact ivt_orders_lists_1_1a n e low high q1_0 _ (i1 + 1) va5p1_0 (by omega) hN1 (by first | assumption | omega) (by first | assumption | omega) (by first | assumption | omega) (by first | assumption | omega) (by first | assumption | omega) (by first | assumption | omega)
          | false =>
            exact ih (i1 + 1) v1_0 (by omega) hN1 (by first | assumption | omega) (by first | assumption | omega) (by first | assumption | omega)
        | false =>
          have g34 := of_decide_eq_false h34
          exact ih (i1 + 1) v1_0 (by omega) hN1 (by first | assumption | omega) (by first | assumption | omega) (by first | assumption | omega)
      · rw [cond_f h33]
        cases h36 : (zm (GS.some va5p1_0) e low high) with
        | true =>
          exact ivt_orders_lists_1_1a n e low high q1_0 _ (i1 + 1) va5p1_0 (by omega) hN1 (by first | assumption | omega) (by first | assumption | omega) (by first | assumption | omega) (by first | assumption | omega) (by first | assumption | omega) (by first | assumption | omega)
        | false =>
          exact ih (i1 + 1) v1_0 (by omega) hN1 (by first | assumption | omega) (by first | assumption | omega) (by first | assumption | omega)
    | x1 i5p1 =>
      try dsimp only
      rcases Bool.eq_false_or_eq_true v1_0 with h37 | h37
      · rw [cond_t h37]
        cases h38 : decide ((zu GS.nil GS.nil e) < 0) with
        | true =>
          have g38 := of_decide_eq_true h38
          cases h39 : (zm GS.nil e low high) with
          | true =>
            exact ih (i1 + 1) true (by omega) hN1 (by first | assumption | omega) (by first | assumption | omega) (by first | assumption | omega)
          | false =>
            exact ih (i1 + 1) v1_0 (by omega) hN1 (by first | assumption | omega) (by first | assumption | omega) (by first | assumption | omega)
        | false =>
          have g38 := of_decide_eq_false h38
          exact ih (i1 + 1) v1_0 (by omega) hN1 (by first | assumption | omega) (by first | assumption | omega) (by first | assumption | omega)
      · rw [cond_f h37]
        cases h40 : (zm GS.nil e low high) with
        | true =>
          exact ih (i1 + 1) true (by omega) hN1 (by first | assumption | omega) (by first | assumption | omega) (by first | assumption | omega)
        | false =>
          exact ih (i1 + 1) v1_0 (by omega) hN1 (by first | assumption | omega) (by first | assumption | omega) (by first | assumption | omega)

def leastC (n : Int) (e : S_Estate) (low : Int) (high : Int) : (GS Int) × Bool :=
  match zC n e low high (w64 (1 * 2 ^ (min (n).toNat 64)) - 0).toNat 0 false with
  | .x0 i1 va1_0 =>
    (GS.some va1_0, true)
  | .x1 i1 v1_0 =>
    bif v1_0 then
      (GS.nil, true)
    else
      (GS.nil, false)

def leastC_o1 (e : S_Estate) (low : Int) (high : Int) (v1_0 : Bool) : List Ora := [.iter [(0, ⟨[.fn (.func 82) [] [.ptr (.agg [.sl e.items.nl (e.items.l.map S_Item.D) (zsl e.items.nl 4) none, I e.whole.lo, I e.whole.hi]), .ptr (I low), .ptr (I high)]], 1, false⟩), (1, ⟨[.fn (.func 90) [] [.ptr (.agg [.sl e.items.nl (e.items.l.map S_Item.D) (zsl e.items.nl 4) none, I e.whole.lo, I e.whole.hi])]], 1, false⟩), (2, ⟨[.sl true [] 0 none], 1, false⟩), (3, ⟨[B v1_0], 1, false⟩)] 5 none]

def sd20147 (n : Int) (e : S_Estate) (low : Int) (high : Int) (i1 : Nat) (va1_0 : List Int) : St := ⟨30, [(9, B false), (0, .yld 4), (1, .ptr (I n)), (7, I (w64 (1 * 2 ^ (min (n).toNat 64)))), (8, I ((i1 : Nat) : Int))], [(0, ⟨[.fn (.func 82) [] [.ptr (.agg [.sl e.items.nl (e.items.l.map S_Item.D) (zsl e.items.nl 4) none, I e.whole.lo, I e.whole.hi]), .ptr (I low), .ptr (I high)]], 1, false⟩), (1, ⟨[.fn (.func 90) [] [.ptr (.agg [.sl e.items.nl (e.items.l.map S_Item.D) (zsl e.items.nl 4) none, I e.whole.lo, I e.whole.hi])]], 1, false⟩), (2, ⟨[.lsl 5 0 va1_0.length 1 none], 1, false⟩), (3, ⟨[B true], 1, false⟩), (5, ⟨va1_0.map I, 1, false⟩)], 6, 5⟩

def sd20148 (n : Int) (e : S_Estate) (low : Int) (high : Int) (i1 : Nat) (v1_0 : Bool) : St := ⟨30, [(9, B false), (0, .yld 4), (1, .ptr (I n)), (7, I (w64 (1 * 2 ^ (min (n).toNat 64)))), (8, I ((i1 : Nat) : Int))], [(0, ⟨[.fn (.func 82) [] [.ptr (.agg [.sl e.items.nl (e.items.l.map S_Item.D) (zsl e.items.nl 4) none, I e.whole.lo, I e.whole.hi]), .ptr (I low), .ptr (I high)]], 1, false⟩), (1, ⟨[.fn (.func 90) [] [.ptr (.agg [.sl e.items.nl (e.items.l.map S_Item.D) (zsl e.items.nl 4) none, I e.whole.lo, I e.whole.hi])]], 1, false⟩), (2, ⟨[.sl true [] 0 none], 1, false⟩), (3, ⟨[B v1_0], 1, false⟩)], 5, 5⟩

theorem T_leastC (n : Int) (e : S_Estate) (low : Int) (high : Int) (hn : n = ((e.items.l.length : Nat) : Int)) (hle : e.items.l.length ≤ 12) : (lim cfg).pure 89 [.fn (.func 96) [] [.ptr (I n)], .fn (.func 82) [] [.ptr (S_Estate.D e), .ptr (I low), .ptr (I high)], .fn (.func 90) [] [.ptr (S_Estate.D e)]] = some (.tup [GS.D I 1 ((leastC n e low high).1), B ((leastC n e low high).2)]) := by
  unfold leastC
  cases h41 : zC n e low high (w64 (1 * 2 ^ (min (n).toNat 64)) - 0).toNat 0 false with
  | x0 i1 va1_0 =>
    try dsimp only
    have hv_h41 := ivt_orders_lists_1_1 n e low high (w64 (1 * 2 ^ (min (n).toNat 64))) (w64 (1 * 2 ^ (min (n).toNat 64)) - 0).toNat 0 false (by omega) (by first | assumption | omega | (simp only [ze] at * <;> omega)) (by first | assumption | omega) (by first | assumption | omega) (by first | assumption | omega)
    rw [h41] at hv_h41
    obtain ⟨hv_h41_0, hv_h41_1⟩ := hv_h41
    try dsimp only [iv_orders_lists_1_1] at hv_h41_0
    try dsimp only [iv_orders_lists_1_1] at hv_h41_1
    exact po_pureS [.iter [(0, ⟨[.fn (.func 82) [] [.ptr (.agg [.sl e.items.nl (e.items.l.map S_Item.D) (zsl e.items.nl 4) none, I e.whole.lo, I e.whole.hi]), .ptr (I low), .ptr (I high)]], 1, false⟩), (1, ⟨[.fn (.func 90) [] [.ptr (.agg [.sl e.items.nl (e.items.l.map S_Item.D) (zsl e.items.nl 4) none, I e.whole.lo, I e.whole.hi])]], 1, false⟩), (2, ⟨[.lsl 5 0 va1_0.length 1 none], 1, false⟩), (3, ⟨[B true], 1, false⟩), (5, ⟨va1_0.map I, 1, false⟩)] 6 none, .dec true] [(5, .sl false (va1_0.map I) 1 none, [5])] (And.intro (snap_row (gO := zy [(0, ⟨[.fn (.func 82) [] [.ptr (.agg [.sl e.items.nl (e.items.l.map S_Item.D) (zsl e.items.nl 4) none, I e.whole.lo, I e.whole.hi]), .ptr (I low), .ptr (I high)]], 1, false⟩), (1, ⟨[.fn (.func 90) [] [.ptr (.agg [.sl e.items.nl (e.items.l.map S_Item.D) (zsl e.items.nl 4) none, I e.whole.lo, I e.whole.hi])]], 1, false⟩), (2, ⟨[.lsl 5 0 va1_0.length 1 none], 1, false⟩), (3, ⟨[B true], 1, false⟩), (5, ⟨va1_0.map I, 1, false⟩)]) (o := 5) (len := va1_0.length) (cap := none) (fz := false) eok_I va1_0 (by kernel_rfl) (by first | assumption | omega)) (And.intro (Eq.refl true) (And.intro (show (lim cfg).iter (rg20118 n e low high) 96 [.yld 4, .ptr (I n)] [(0, ⟨[.fn (.func 82) [] [.ptr (.agg [.sl e.items.nl (e.items.l.map S_Item.D) (zsl e.items.nl 4) none, I e.whole.lo, I e.whole.hi]), .ptr (I low), .ptr (I high)]], 1, false⟩), (1, ⟨[.fn (.func 90) [] [.ptr (.agg [.sl e.items.nl (e.items.l.map S_Item.D) (zsl e.items.nl 4) none, I e.whole.lo, I e.whole.hi])]], 1, false⟩), (2, ⟨[.sl true [] 0 none], 1, false⟩), (3, ⟨[B false], 1, false⟩)] 5 = some ([(0, ⟨[.fn (.func 82) [] [.ptr (.agg [.sl e.items.nl (e.items.l.map S_Item.D) (zsl e.items.nl 4) none, I e.whole.lo, I e.whole.hi]), .ptr (I low), .ptr (I high)]], 1, false⟩), (1, ⟨[.fn (.func 90) [] [.ptr (.agg [.sl e.items.nl (e.items.l.map S_Item.D) (zsl e.items.nl 4) none, I e.whole.lo, I e.whole.hi])]], 1, false⟩), (2, ⟨[.lsl 5 0 va1_0.length 1 none], 1, false⟩), (3, ⟨[B true], 1, false⟩), (5, ⟨va1_0.map I, 1, false⟩)], 6, none) from po_iter [.op (some 7) ⟨I (w64 (1 * 2 ^ (min (n).toNat 64))), [], [], 5⟩, .loopY (.exit 0) (sd20147 n e low high i1 va1_0) none] (And.intro (po_lrY (q := lr_orders_lists_1_1 n e low high (w64 (1 * 2 ^ (min (n).toNat 64)))) (lp_orders_lists_1_1 n e low high (w64 (1 * 2 ^ (min (n).toNat 64))) (w64 (1 * 2 ^ (min (n).toNat 64)) - 0).toNat 0 false (by omega) (by first | assumption | omega | (simp only [ze] at * <;> omega)) (by first | assumption | omega) (by first | assumption | omega) (by first | assumption | omega)) h41) (And.intro (shl_op (C := cfg) (t := 3) (cst := true) (nxt := 5) (a := 1) (b := n) (by first | assumption | omega)) trivial)) (by kernel_rfl)) trivial))) (by kernel_rfl)
  | x1 i1 v1_0 =>
    try dsimp only
    have p1 := (show (lim cfg).iter (rg20118 n e low high) 96 [.yld 4, .ptr (I n)] [(0, ⟨[.fn (.func 82) [] [.ptr (.agg [.sl e.items.nl (e.items.l.map S_Item.D) (zsl e.items.nl 4) none, I e.whole.lo, I e.whole.hi]), .ptr (I low), .ptr (I high)]], 1, false⟩), (1, ⟨[.fn (.func 90) [] [.ptr (.agg [.sl e.items.nl (e.items.l.map S_Item.D) (zsl e.items.nl 4) none, I e.whole.lo, I e.whole.hi])]], 1, false⟩), (2, ⟨[.sl true [] 0 none], 1, false⟩), (3, ⟨[B false], 1, false⟩)] 5 = some ([(0, ⟨[.fn (.func 82) [] [.ptr (.agg [.sl e.items.nl (e.items.l.map S_Item.D) (zsl e.items.nl 4) none, I e.whole.lo, I e.whole.hi]), .ptr (I low), .ptr (I high)]], 1, false⟩), (1, ⟨[.fn (.func 90) [] [.ptr (.agg [.sl e.items.nl (e.items.l.map S_Item.D) (zsl e.items.nl 4) none, I e.whole.lo, I e.whole.hi])]], 1, false⟩), (2, ⟨[.sl true [] 0 none], 1, false⟩), (3, ⟨[B v1_0], 1, false⟩)], 5, none) from po_iter [.op (some 7) ⟨I (w64 (1 * 2 ^ (min (n).toNat 64))), [], [], 5⟩, .loopY (.exit 0) (sd20148 n e low high i1 v1_0) none] (And.intro (po_lrY (q := lr_orders_lists_1_1 n e low high (w64 (1 * 2 ^ (min (n).toNat 64)))) (lp_orders_lists_1_1 n e low high (w64 (1 * 2 ^ (min (n).toNat 64))) (w64 (1 * 2 ^ (min (n).toNat 64)) - 0).toNat 0 false (by omega) (by first | assumption | omega | (simp only [ze] at * <;> omega)) (by first | assumption | omega) (by first | assumption | omega) (by first | assumption | omega)) h41) (And.intro (shl_op (C := cfg) (t := 3) (cst := true) (nxt := 5) (a := 1) (b := n) (by first | assumption | omega)) trivial)) (by kernel_rfl))
    rcases Bool.eq_false_or_eq_true v1_0 with h42 | h42
    · rw [cond_t h42]
      exact zb ((leastC_o1 e low high v1_0) ++ [.dec true]) (And.intro h42 (And.intro p1 trivial)) (by kernel_rfl)
    · rw [cond_f h42]
      exact zb ((leastC_o1 e low high v1_0) ++ [.dec false]) (And.intro h42 (And.intro p1 trivial)) (by kernel_rfl)
end Go.VS

/-
  Orders: what leastOf comes to. (A text of this claim's own; nothing of it is trusted.)
-/
namespace Go.VS
set_option maxHeartbeats 0
/-- What is asked of a list; is one less than another one. -/
def okLC (e : S_Estate) (low high : Int) (l : List Int) : Bool := zm (GS.some l) e low high
def ltI (e : S_Estate) (l c : List Int) : Bool := decide (zu (GS.some l) (GS.some c) e < 0)
theorem cmp2_congr {b b' : GS Int} (h : b.l = b'.l) : ∀ (l : List Int) (i : Nat), slices_Compare_2 b l i = slices_Compare_2 b' l i
  | [], _ => rfl
  | x :: l, i => by
    unfold slices_Compare_2
    have e1 : b.at ((i : Nat) : Int) = b'.at ((i : Nat) : Int) := by unfold GS.at; rw [h]
    rw [h, e1, cmp2_congr h l (i + 1)]
theorem cheap_nil (a : GS Int) (e : S_Estate) : zu a GS.nil e = zu a (GS.some []) e := by
  unfold zu slices_Compare
  rw [cmp2_congr (b := GS.nil) (b' := GS.some []) rfl a.l 0]
  cases slices_Compare_2 (GS.some []) a.l 0 <;> rfl
theorem l5a_C (w : List Int) {m : Nat} (hm : m < 4611686018427387904) : ∀ (r i : Nat) (v u : List Int), i + r ≤ 64 → zU w ((m : Nat) : Int) r i v u = .x0 (i + r) (v ++ bitsFrom m r i) u
  | 0, i, v, u, _ => by simp [zU, bitsFrom]
  | r + 1, i, v, u, h => by
    unfold zU bitsFrom
    rw [bt_eq hm (by omega)]
    cases m.testBit i with
    | true => simp only [cond_true]; rw [l5a_C w hm r (i + 1) _ _ (by omega)]; simp; omega
    | false => simp only [cond_false]; rw [l5a_C w hm r (i + 1) _ _ (by omega)]; simp; omega
theorem l5_C (w : List Int) {m : Nat} (hm : m < 4611686018427387904) : ∀ (r i : Nat), i + r ≤ 64 → (bitsFrom m r i = [] → zP w ((m : Nat) : Int) r i = .x1 (i + r)) ∧ (bitsFrom m r i ≠ [] → zP w ((m : Nat) : Int) r i = .x0 (i + r) (bitsFrom m r i) w)
  | 0, i, _ => ⟨fun _ => rfl, fun h => absurd rfl h⟩
  | r + 1, i, h => by
    unfold zP bitsFrom
    rw [bt_eq hm (by omega)]
    cases m.testBit i with
    | true => simp only [cond_true]; rw [l5a_C w hm r (i + 1) _ _ (by omega)]; simp; omega
    | false =>
      have ih := l5_C w hm r (i + 1) (by omega)
      rw [show i + 1 + r = i + (r + 1) by omega] at ih
      simp only [cond_false]
      exact ih
theorem l5pa_C {m : Nat} (hm : m < 4611686018427387904) : ∀ (r i : Nat) (v : List Int), i + r ≤ 64 → y0 ((m : Nat) : Int) r i v = .x0 (i + r) (v ++ bitsFrom m r i)
  | 0, i, v, _ => by simp [y0, bitsFrom]
  | r + 1, i, v, h => by
    unfold y0 bitsFrom
    rw [bt_eq hm (by omega)]
    cases m.testBit i with
    | true => simp only [cond_true]; rw [l5pa_C hm r (i + 1) _ (by omega)]; simp; omega
    | false => simp only [cond_false]; rw [l5pa_C hm r (i + 1) _ (by omega)]; simp; omega
theorem l5p_C {m : Nat} (hm : m < 4611686018427387904) : ∀ (r i : Nat), i + r ≤ 64 → (bitsFrom m r i = [] → zX ((m : Nat) : Int) r i = .x1 (i + r)) ∧ (bitsFrom m r i ≠ [] → zX ((m : Nat) : Int) r i = .x0 (i + r) (bitsFrom m r i))
  | 0, i, _ => ⟨fun _ => rfl, fun h => absurd rfl h⟩
  | r + 1, i, h => by
    unfold zX bitsFrom
    rw [bt_eq hm (by omega)]
    cases m.testBit i with
    | true => simp only [cond_true]; rw [l5pa_C hm r (i + 1) _ (by omega)]; simp; omega
    | false =>
      have ih := l5p_C hm r (i + 1) (by omega)
      rw [show i + 1 + r = i + (r + 1) by omega] at ih
      simp only [cond_false]
      exact ih
section
variable {e : S_Estate} {low high : Int} {n : Nat}
theorem l1a_C (hn : n ≤ 12) : ∀ (r i : Nat) (c : List Int), 1 ≤ i → i + r ≤ 2 ^ n → c ≠ [] → ∃ w, goC (okLC e low high) (ltI e) n r i (some c) = some w ∧ w ≠ [] ∧ zV (n : Int) e low high r i c = .x0 (i + r) w
  | 0, i, c, _, _, h => ⟨c, rfl, h, rfl⟩
  | r + 1, i, c, h1, h2, h3 => by
    have hp : 2 ^ n ≤ 2 ^ 12 := Nat.pow_le_pow_right (by omega) hn
    have hne := bits_ne (n := n) (m := i) (by omega) h1
    have q := (l5_C c (m := i) (by omega) n 0 (by omega)).2 hne
    unfold zV goC stp
    rw [show ((n : Int) - 0).toNat = n by omega, q]
    dsimp only
    change ∃ w, goC _ _ n r (i + 1) (bif ltI e (chosen n i) c then bif okLC e low high (chosen n i) then some (chosen n i) else some c else some c) = some w ∧ w ≠ [] ∧ (bif ltI e (chosen n i) c then bif okLC e low high (chosen n i) then _ else _ else _) = _
    rw [show i + (r + 1) = i + 1 + r by omega]
    cases ltI e (chosen n i) c with
    | false => exact l1a_C hn r (i + 1) c (by omega) (by omega) h3
    | true =>
      cases okLC e low high (chosen n i) with
      | false => exact l1a_C hn r (i + 1) c (by omega) (by omega) h3
      | true => exact l1a_C hn r (i + 1) (chosen n i) (by omega) (by omega) hne
def optB (v : Bool) : Option (List Int) := match v with | true => some [] | false => none
theorem l1_C (hn : n ≤ 12) : ∀ (r i : Nat) (v : Bool), i + r ≤ 2 ^ n → (∃ v', goC (okLC e low high) (ltI e) n r i (optB v) = optB v' ∧ zC (n : Int) e low high r i v = .x1 (i + r) v') ∨ (∃ w, goC (okLC e low high) (ltI e) n r i (optB v) = some w ∧ w ≠ [] ∧ zC (n : Int) e low high r i v = .x0 (i + r) w)
  | 0, i, v, _ => .inl ⟨v, rfl, rfl⟩
  | r + 1, i, v, h2 => by
    have hp : 2 ^ n ≤ 2 ^ 12 := Nat.pow_le_pow_right (by omega) hn
    have q := l5p_C (m := i) (by omega) n 0 (by omega)
    unfold zC goC
    rw [show ((n : Int) - 0).toNat = n by omega, show i + (r + 1) = i + 1 + r by omega]
    have b1 : decide (zu GS.nil GS.nil e < 0) = ltI e [] [] := rfl
    have b2 : zm GS.nil e low high = okLC e low high [] := rfl
    have a1 : decide (zu (GS.some (bitsFrom i n 0)) GS.nil e < 0) = ltI e (chosen n i) [] := by rw [cheap_nil]; rfl
    have a2 : zm (GS.some (bitsFrom i n 0)) e low high = okLC e low high (chosen n i) := rfl
    have a3 : bitsFrom i n 0 = chosen n i := rfl
    have s1 : ∀ l, stp (okLC e low high) (ltI e) (optB true) l = (bif ltI e l [] then (bif okLC e low high l then some l else some []) else some []) := fun _ => rfl
    have s0 : ∀ l, stp (okLC e low high) (ltI e) (optB false) l = (bif okLC e low high l then some l else none) := fun _ => rfl
    by_cases hc : chosen n i = []
    · rw [q.1 hc, hc]
      dsimp only
      rw [b1, b2]
      cases v with
      | true =>
        rw [s1]
        simp only [cond_true]
        cases ltI e [] [] with
        | false => exact l1_C hn r (i + 1) true (by omega)
        | true => cases okLC e low high [] <;> exact l1_C hn r (i + 1) true (by omega)
      | false =>
        rw [s0]
        simp only [cond_false]
        cases okLC e low high [] with
        | false => exact l1_C hn r (i + 1) false (by omega)
        | true => exact l1_C hn r (i + 1) true (by omega)
    · rw [q.2 hc]
      dsimp only
      rw [a1, a2, a3]
      have far : ∃ w, goC (okLC e low high) (ltI e) n r (i + 1) (some (chosen n i)) = some w ∧ w ≠ [] ∧ zV (n : Int) e low high r (i + 1) (chosen n i) = .x0 (i + 1 + r) w := l1a_C hn r (i + 1) (chosen n i) (by omega) (by omega) hc
      cases v with
      | true =>
        rw [s1]
        simp only [cond_true]
        cases ltI e (chosen n i) [] with
        | false => exact l1_C hn r (i + 1) true (by omega)
        | true =>
          cases okLC e low high (chosen n i) with
          | false => exact l1_C hn r (i + 1) true (by omega)
          | true => exact .inr far
      | false =>
        rw [s0]
        simp only [cond_false]
        cases okLC e low high (chosen n i) with
        | false => exact l1_C hn r (i + 1) false (by omega)
        | true => exact .inr far
/-- leastOf: the least list. -/
theorem leastC_eq (hn : n ≤ 12) : (leastC (n : Int) e low high).1.l = (goC (okLC e low high) (ltI e) n (2 ^ n) 0 none).getD [] ∧ (leastC (n : Int) e low high).2 = (goC (okLC e low high) (ltI e) n (2 ^ n) 0 none).isSome := by
  unfold leastC
  rw [shl_one (by omega) (by omega), Int.sub_zero, Int.toNat_natCast, Int.toNat_natCast]
  rcases l1_C (e := e) (low := low) (high := high) hn (2 ^ n) 0 false (by omega) with ⟨v', h1, h2⟩ | ⟨w, h1, h2, h3⟩
  · have h1' : goC (okLC e low high) (ltI e) n (2 ^ n) 0 none = optB v' := h1
    rw [h2, h1']
    cases v' <;> exact ⟨rfl, rfl⟩
  · have h1' : goC (okLC e low high) (ltI e) n (2 ^ n) 0 none = some w := h1
    rw [h3, h1']
    exact ⟨rfl, rfl⟩
end
end Go.VS

namespace Go.VS
open Go Go.Proofs
set_option maxHeartbeats 0
set_option linter.unusedSimpArgs false
set_option linter.unusedVariables false
theorem T_lists (n : Int) : (lim cfg).pure 68 [I n] = some (.fn (.func 96) [] [.ptr (I n)]) := zb [] trivial (by kernel_rfl)

def zY (e : S_Estate) (low : Int) (high : Int) : (GS Int) × Bool :=
  bif ((leastC ((e.items.l.length : Nat) : Int) e low high).1).nl then
    bif ((leastC ((e.items.l.length : Nat) : Int) e low high).2) then
      (((leastC ((e.items.l.length : Nat) : Int) e low high).1), true)
    else
      (((leastC ((e.items.l.length : Nat) : Int) e low high).1), false)
  else
    bif ((leastC ((e.items.l.length : Nat) : Int) e low high).2) then
      (((leastC ((e.items.l.length : Nat) : Int) e low high).1), true)
    else
      (((leastC ((e.items.l.length : Nat) : Int) e low high).1), false)

def cheapestC_o1 (e : S_Estate) (low : Int) (high : Int) : List Ora := [.rw 8 (I ((e.items.l.length : Nat) : Int)), .pure (.fn (.func 96) [] [.ptr (I ((e.items.l.length : Nat) : Int))]), .pureS (.tup [.sl (((leastC ((e.items.l.length : Nat) : Int) e low high).1).nl) ((((leastC ((e.items.l.length : Nat) : Int) e low high).1).l).map I) (zsl (((leastC ((e.items.l.length : Nat) : Int) e low high).1).nl) 1) none, B ((leastC ((e.items.l.length : Nat) : Int) e low high).2)]) true []]

def cheapestC_o2 (e : S_Estate) (low : Int) (high : Int) : List Ora := [.rw 8 (I ((e.items.l.length : Nat) : Int)), .pure (.fn (.func 96) [] [.ptr (I ((e.items.l.length : Nat) : Int))]), .pureS (.tup [.sl (((leastC ((e.items.l.length : Nat) : Int) e low high).1).nl) ((((leastC ((e.items.l.length : Nat) : Int) e low high).1).l).map I) (zsl (((leastC ((e.items.l.length : Nat) : Int) e low high).1).nl) 1) none, B ((leastC ((e.items.l.length : Nat) : Int) e low high).2)]) false []]

theorem T_cheapestC (e : S_Estate) (low : Int) (high : Int) (hle : e.items.l.length ≤ 12) : (lim cfg).pure 59 [S_Estate.D e, .agg [.fn (.func 82) [] [.ptr (S_Estate.D e), .ptr (I low), .ptr (I high)]]] = some (.tup [GS.D I 1 ((zY e low high).1), B ((zY e low high).2)]) := by
  unfold zY
  have p1 := (T_lists ((e.items.l.length : Nat) : Int))
  cases h1 : ((leastC ((e.items.l.length : Nat) : Int) e low high).1).nl with
  | true =>
    have p2 := (And.intro (show flat fuelD (.tup [.sl (((leastC ((e.items.l.length : Nat) : Int) e low high).1).nl) ((((leastC ((e.items.l.length : Nat) : Int) e low high).1).l).map I) (zsl (((leastC ((e.items.l.length : Nat) : Int) e low high).1).nl) 1) none, B ((leastC ((e.items.l.length : Nat) : Int) e low high).2)]) = true from (by rw [h1] <;> kernel_rfl)) (And.intro (trivial) (T_leastC ((e.items.l.length : Nat) : Int) e low high (by first | assumption | omega) (by first | assumption | omega))))
    cases h2 : ((leastC ((e.items.l.length : Nat) : Int) e low high).2) with
    | true =>
      exact zb ((cheapestC_o1 e low high) ++ [.dec true]) (And.intro h2 (And.intro p2 (And.intro p1 (And.intro (zr S_Item.D e.items) trivial)))) (by kernel_rfl)
    | false =>
      exact zb ((cheapestC_o1 e low high) ++ [.dec false]) (And.intro h2 (And.intro p2 (And.intro p1 (And.intro (zr S_Item.D e.items) trivial)))) (by kernel_rfl)
  | false =>
    have p3 := (And.intro (show flat fuelD (.tup [.sl (((leastC ((e.items.l.length : Nat) : Int) e low high).1).nl) ((((leastC ((e.items.l.length : Nat) : Int) e low high).1).l).map I) (zsl (((leastC ((e.items.l.length : Nat) : Int) e low high).1).nl) 1) none, B ((leastC ((e.items.l.length : Nat) : Int) e low high).2)]) = false from (by rw [h1] <;> kernel_rfl)) (And.intro (trivial) (T_leastC ((e.items.l.length : Nat) : Int) e low high (by first | assumption | omega) (by first | assumption | omega))))
    cases h3 : ((leastC ((e.items.l.length : Nat) : Int) e low high).2) with
    | true =>
      exact zb ((cheapestC_o2 e low high) ++ [.dec true]) (And.intro h3 (And.intro p3 (And.intro p1 (And.intro (zr S_Item.D e.items) trivial)))) (by kernel_rfl)
    | false =>
      exact zb ((cheapestC_o2 e low high) ++ [.dec false]) (And.intro h3 (And.intro p3 (And.intro p1 (And.intro (zr S_Item.D e.items) trivial)))) (by kernel_rfl)

theorem bounds_nil {e : S_Estate} {low high : Int} (h : zI e GS.nil low high = 0) : 1 ≤ e.items.l.length ∧ e.items.l.length ≤ 12 := by
  have h1 := bounds_iff.1 h
  have h2 := right_ok (by simp [GS.nil]) h1.1
  exact ⟨h2.1, h2.2.1⟩

def z5 (e : S_Estate) (low : Int) (high : Int) : (GS Int) × Bool × Int :=
  bif ((zI e GS.nil low high) != 0) then
    (GS.nil, false, (zI e GS.nil low high))
  else
    bif ((zY e low high).1).nl then
      bif ((zY e low high).2) then
        (((zY e low high).1), true, 0)
      else
        (((zY e low high).1), false, 0)
    else
      bif ((zY e low high).2) then
        (((zY e low high).1), true, 0)
      else
        (((zY e low high).1), false, 0)

def orders_Cheapest_o1 (e : S_Estate) (low : Int) (high : Int) : List Ora := [.pure (I (zI e GS.nil low high)), .dec false, .pureS (.tup [.sl (((zY e low high).1).nl) ((((zY e low high).1).l).map I) (zsl (((zY e low high).1).nl) 1) none, B ((zY e low high).2)]) true []]

def orders_Cheapest_o2 (e : S_Estate) (low : Int) (high : Int) : List Ora := [.pure (I (zI e GS.nil low high)), .dec false, .pureS (.tup [.sl (((zY e low high).1).nl) ((((zY e low high).1).l).map I) (zsl (((zY e low high).1).nl) 1) none, B ((zY e low high).2)]) false []]

theorem zo (e : S_Estate) (low : Int) (high : Int) : (lim cfg).pure 40 [S_Estate.D e, I low, I high] = some (.tup [GS.D I 1 ((z5 e low high).1), B ((z5 e low high).2.1), I ((z5 e low high).2.2)]) := by
  unfold z5
  have p1 := (T_orders_bounds e GS.nil low high (by first | assumption | omega | (with_reducible exact zp) | (with_reducible exact Nat.le_trans zG (by omega)) | (with_reducible exact zF) | (with_reducible exact zE (by omega)) | (with_reducible exact zD (by assumption) (by omega)) | (simp only [ze] at * <;> omega) | (simp only [z9, z8, z7, z6, zd, GS.nil_len, GS.some_l, List.length_set, List.length_append, List.length_cons, List.length_nil] at * <;> first | with_reducible assumption | omega) | (simp only [z9, z8, z7, z6, zd, GS.nil_len, GS.some_l, List.length_set, List.length_append, List.length_cons, List.length_nil, ze] at * <;> first | with_reducible assumption | omega) | (simp at * <;> omega)))
  cases h1 : ((zI e GS.nil low high) != 0) with
  | true =>
    have g1 := bne_true h1
    exact zb [.pure (I (zI e GS.nil low high)), .dec true] (And.intro h1 (And.intro p1 trivial)) (by kernel_rfl)
  | false =>
    have g1 := bounds_nil (bne_false h1)
    cases h2 : ((zY e low high).1).nl with
    | true =>
      have p2 := (And.intro (show flat fuelD (.tup [.sl (((zY e low high).1).nl) ((((zY e low high).1).l).map I) (zsl (((zY e low high).1).nl) 1) none, B ((zY e low high).2)]) = true from (by rw [h2] <;> kernel_rfl)) (And.intro (trivial) (T_cheapestC e low high (by first | assumption | omega))))
      cases h3 : ((zY e low high).2) with
      | true =>
        exact zb ((orders_Cheapest_o1 e low high) ++ [.dec true]) (And.intro h3 (And.intro p2 (And.intro h1 (And.intro p1 trivial)))) (by kernel_rfl)
      | false =>
        exact zb ((orders_Cheapest_o1 e low high) ++ [.dec false]) (And.intro h3 (And.intro p2 (And.intro h1 (And.intro p1 trivial)))) (by kernel_rfl)
    | false =>
      have p3 := (And.intro (show flat fuelD (.tup [.sl (((zY e low high).1).nl) ((((zY e low high).1).l).map I) (zsl (((zY e low high).1).nl) 1) none, B ((zY e low high).2)]) = false from (by rw [h2] <;> kernel_rfl)) (And.intro (trivial) (T_cheapestC e low high (by first | assumption | omega))))
      cases h4 : ((zY e low high).2) with
      | true =>
        exact zb ((orders_Cheapest_o2 e low high) ++ [.dec true]) (And.intro h4 (And.intro p3 (And.intro h1 (And.intro p1 trivial)))) (by kernel_rfl)
      | false =>
        exact zb ((orders_Cheapest_o2 e low high) ++ [.dec false]) (And.intro h4 (And.intro p3 (And.intro h1 (And.intro p1 trivial)))) (by kernel_rfl)
end Go.VS

/-
  Orders: estates closed; areas at the ends of what can be. (A text of this claim's own; nothing of it is trusted.)
-/
namespace Go.VS
/-- One item at a number. -/
def put (l : List S_Item) (i : Nat) (y : Int) : List S_Item := l.set i ⟨⟨y, y⟩, (l.getD i default).cost, (l.getD i default).error⟩
end Go.VS

/-
  Orders: what measurements leave. (A text of this claim's own; nothing of it is trusted.)
-/
namespace Go.VS
set_option maxHeartbeats 0
end Go.VS

/-
  Orders: what Attain shows, what measurements show of areas. (A text of this claim's own; nothing of it is trusted.)
-/
namespace Go.VS
set_option maxHeartbeats 0
/-! ### what measurements show of areas -/
end Go.VS

/-
  Orders: does it stay open. (A text of this claim's own; nothing of it is trusted.)
-/
namespace Go.VS
set_option maxHeartbeats 0
/-- The least number added behind which the span reaches beyond low. -/
def opS (e : S_Estate) (g low : Int) : Int := max (max 0 (e.whole.lo - (sHi e.items.l - g))) (low + 1 - (sHi e.items.l - g))
def Opn (e : S_Estate) (g low high : Int) : Prop := opS e g low ≤ min g (e.whole.hi - sLo e.items.l) ∧ max (sLo e.items.l + opS e g low) e.whole.lo < high ∧ low < min (sHi e.items.l - g + opS e g low) e.whole.hi
theorem open_eq {e : S_Estate} (h : V e) {items : GS Int} (hi : inc (-1) (e.items.l.length : Int) items.l) {low high : Int} (h0 : -1099511627776 ≤ low) (h1 : high ≤ 1099511627776) (hlh : low < high) :
    (Opn e (tot (gs e items.l)) low high → zJ e items low high = (orders_shown e items (opS e (tot (gs e items.l)) low), true)) ∧ (¬ Opn e (tot (gs e items.l)) low high → zJ e items low high = (GS.nil, false)) := by
  have hg := gs_range h hi
  have hb := sums_bd h.sp
  have hn := h.n2
  have w0 := h.w0; have w1 := h.w1; have w2 := h.w2
  have hk := wn_ok h hg.1 hg.2
  have e1 : imax (wlo (wn e (tot (gs e items.l)))) (w64 (w64 (low + 1) - (wn e (tot (gs e items.l))).at_.hi)) = opS e (tot (gs e items.l)) low := by
    rw [imax_eq]
    have : (wn e (tot (gs e items.l))).at_.hi = sHi e.items.l - tot (gs e items.l) := rfl
    rw [this, w64_eq (n := low + 1) (by omega) (by omega), w64_eq (by omega) (by omega)]
    rfl
  have e2 : whi (wn e (tot (gs e items.l))) = min (tot (gs e items.l)) (e.whole.hi - sLo e.items.l) := rfl
  have e3 : 0 ≤ opS e (tot (gs e items.l)) low := by unfold opS; omega
  unfold zJ Opn
  rw [gtot_eq h hi, windowOf_eq h hg.1 hg.2, ends_eq hk]
  simp only []
  rw [e1, e2]
  by_cases c1 : opS e (tot (gs e items.l)) low > min (tot (gs e items.l)) (e.whole.hi - sLo e.items.l)
  · rw [decide_eq_true c1]
    simp only [cond_true]
    exact ⟨fun hh => by omega, fun _ => trivial⟩
  · rw [decide_eq_false c1, seen_eq hk e3 (by show _ ≤ tot (gs e items.l); omega)]
    simp only [cond_false]
    have f1 : max ((wn e (tot (gs e items.l))).at_.lo + opS e (tot (gs e items.l)) low) (wn e (tot (gs e items.l))).whole_.lo = max (sLo e.items.l + opS e (tot (gs e items.l)) low) e.whole.lo := rfl
    have f2 : min ((wn e (tot (gs e items.l))).at_.hi + opS e (tot (gs e items.l)) low) (wn e (tot (gs e items.l))).whole_.hi = min (sHi e.items.l - tot (gs e items.l) + opS e (tot (gs e items.l)) low) e.whole.hi := rfl
    rw [f1, f2]
    by_cases c2 : max (sLo e.items.l + opS e (tot (gs e items.l)) low) e.whole.lo ≥ high
    · rw [decide_eq_true c2]
      simp only [cond_true]
      exact ⟨fun hh => by omega, fun _ => trivial⟩
    · rw [decide_eq_false c2]
      simp only [cond_false]
      by_cases c3 : min (sHi e.items.l - tot (gs e items.l) + opS e (tot (gs e items.l)) low) e.whole.hi ≤ low
      · rw [decide_eq_true c3]
        simp only [cond_true]
        exact ⟨fun hh => by omega, fun _ => trivial⟩
      · rw [decide_eq_false c3]
        simp only [cond_false]
        exact ⟨fun _ => trivial, fun hh => absurd ⟨by omega, by omega, by omega⟩ hh⟩
theorem bounds_ok {e : S_Estate} (h : V e) {items : GS Int} (hL : items.l.length ≤ 9223372036854775807) (hi : inc (-1) (e.items.l.length : Int) items.l) {low high : Int} (h0 : -1099511627776 ≤ low) (h1 : high ≤ 1099511627776) (hlh : low < high) : zI e items low high = 0 :=
  bounds_iff.2 ⟨right_of hL h hi, hlh, h0, h1⟩
theorem openF {e : S_Estate} (h : V e) {items : GS Int} (hL : items.l.length ≤ 9223372036854775807) (hi : inc (-1) (e.items.l.length : Int) items.l) {low high : Int} (h0 : -1099511627776 ≤ low) (h1 : high ≤ 1099511627776) (hlh : low < high) :
    (Opn e (tot (gs e items.l)) low high → orders_Open e items low high = (orders_shown e items (opS e (tot (gs e items.l)) low), true, 0) ∧ zf e items low high = (false, 0)) ∧
    (¬ Opn e (tot (gs e items.l)) low high → orders_Open e items low high = (GS.nil, false, 0) ∧ zf e items low high = (true, 0)) := by
  have k := open_eq h hi h0 h1 hlh
  have hb := bounds_ok h hL hi h0 h1 hlh
  refine ⟨fun ho => ?_, fun ho => ?_⟩
  · have := k.1 ho
    unfold orders_Open zf
    rw [hb, this]
    exact ⟨rfl, rfl⟩
  · have := k.2 ho
    unfold orders_Open zf
    rw [hb, this]
    exact ⟨rfl, rfl⟩
end Go.VS

/-
  Orders: what Cheapest answers. (A text of this claim's own; nothing of it is trusted.)
-/
namespace Go.VS
set_option maxHeartbeats 0
/-- The cheapest list that decides. -/
def chpO (e : S_Estate) (low high : Int) : Option (List Int) := goC (okLC e low high) (ltI e) e.items.l.length (2 ^ e.items.l.length) 0 none
theorem cheapestC_eq (e : S_Estate) (low high : Int) : zY e low high = leastC ((e.items.l.length : Nat) : Int) e low high := by
  unfold zY
  generalize leastC ((e.items.l.length : Nat) : Int) e low high = r
  obtain ⟨g, b⟩ := r
  dsimp only
  cases g.nl <;> cases b <;> rfl
theorem cheapF {e : S_Estate} (h : V e) {low high : Int} (h0 : -1099511627776 ≤ low) (h1 : high ≤ 1099511627776) (hlh : low < high) :
    (z5 e low high).1.l = (chpO e low high).getD [] ∧ (z5 e low high).2.1 = (chpO e low high).isSome ∧ (z5 e low high).2.2 = 0 := by
  have hb : zI e GS.nil low high = 0 := bounds_iff.2 ⟨right_of (by simp [GS.nil]) h trivial, hlh, h0, h1⟩
  have k := leastC_eq (e := e) (low := low) (high := high) (n := e.items.l.length) h.n2
  unfold z5
  rw [hb, cheapestC_eq]
  simp only [bne_self_eq_false, cond_false]
  unfold chpO
  rw [← k.1, ← k.2]
  generalize leastC ((e.items.l.length : Nat) : Int) e low high = r
  obtain ⟨g, b⟩ := r
  dsimp only
  cases g.nl <;> cases b <;> exact ⟨rfl, rfl, rfl⟩
theorem chp_some {e : S_Estate} {low high : Int} {w : List Int} (hw : chpO e low high = some w) : inc (-1) (e.items.l.length : Int) w ∧ okLC e low high w = true := by
  rcases goC_some _ _ _ _ hw with h | ⟨k, _, _, rfl, h⟩
  · cases h
  · exact ⟨chosen_inc _ _, h⟩
theorem cheap_len {e : S_Estate} {low high : Int} : (z5 e low high).1.l.length ≤ 9223372036854775807 := by
  by_cases hb : zI e GS.nil low high = 0
  · obtain ⟨b1, b2, b3, b4⟩ := bounds_iff.1 hb
    have h := check_iff.1 ((right_iff (by simp [GS.nil])).1 b1).1
    rw [(cheapF h b3 b4 b2).1]
    cases hw : chpO e low high with
    | none => simp
    | some w => have := inc_short h (chp_some hw).1; show w.length ≤ _; omega
  · unfold z5
    have : (zI e GS.nil low high != 0) = true := by simpa using hb
    rw [this]
    simp [GS.nil]
/-- Does a list decide. -/
theorem okC_eq {e : S_Estate} (h : V e) {l : List Int} (hi : inc (-1) (e.items.l.length : Int) l) {low high : Int} (h0 : -1099511627776 ≤ low) (h1 : high ≤ 1099511627776) (hlh : low < high) :
    okLC e low high l = true ↔ ¬ Opn e (tot (gs e l)) low high := by
  have k := open_eq (items := GS.some l) h hi h0 h1 hlh
  unfold okLC zm
  by_cases c : Opn e (tot (gs e l)) low high
  · rw [k.1 c]
    exact ⟨fun h => (by cases h), fun h => absurd c h⟩
  · rw [k.2 c]
    exact ⟨fun _ => c, fun _ => rfl⟩
/-! ### comparing -/
theorem compare_eq (a b : Int) : zK a b = if a < b then -1 else if b < a then 1 else 0 := by
  unfold zK cmp_isNaN
  simp only [bne_self_eq_false, cond_false, Bool.cond_decide]
theorem ltI_cost {e : S_Estate} (l c : List Int) : (ltI e l c = true → zv e (GS.some l) ≤ zv e (GS.some c)) ∧ (ltI e l c = false → zv e (GS.some c) ≤ zv e (GS.some l)) := by
  unfold ltI zu or3
  rw [compare_eq (zv e (GS.some l)), compare_eq ((((GS.some l).l.length : Nat) : Int))]
  by_cases h1 : zv e (GS.some l) < zv e (GS.some c)
  · simp only [h1, if_true]
    exact ⟨fun _ => by omega, fun h => by simp at h⟩
  · by_cases h2 : zv e (GS.some c) < zv e (GS.some l)
    · simp only [h1, h2, if_true, if_false]
      exact ⟨fun h => by simp at h, fun _ => by omega⟩
    · have : zv e (GS.some l) = zv e (GS.some c) := by omega
      exact ⟨fun _ => by omega, fun _ => by omega⟩
end Go.VS

namespace Go.VS
open Go Go.Proofs
set_option maxHeartbeats 0
set_option linter.unusedSimpArgs false
set_option linter.unusedVariables false
def l_OrdersCheapest (e : S_Estate) (items : GS Int) (low : Int) (high : Int) : Bool :=
  bif (r_Valid e) then
    bif (r_Right e items) then
      bif decide (low ≥ high) then
        true
      else
        bif decide (low < (-1099511627776)) then
          true
        else
          bif decide (high > 1099511627776) then
            true
          else
            bif ((z5 e low high).2.1) then
              bif ((zf e items low high).1) then
                bif (((z5 e low high).2.2) != 0) then
                  false
                else
                  bif (((zf e items low high).2) != 0) then
                    false
                  else
                    bif ((zf e ((z5 e low high).1) low high).1) then
                      bif (((zf e ((z5 e low high).1) low high).2) == 0) then
                        bif (((zt e ((z5 e low high).1)).2) == 0) then
                          bif (((zt e items).2) == 0) then
                            bif decide (((zt e ((z5 e low high).1)).1) ≤ ((zt e items).1)) then
                              true
                            else
                              false
                          else
                            false
                        else
                          false
                      else
                        false
                    else
                      bif (((zf e ((z5 e low high).1) low high).2) == 0) then
                        bif (((zt e ((z5 e low high).1)).2) == 0) then
                          bif (((zt e items).2) == 0) then
                            false
                          else
                            false
                        else
                          false
                      else
                        false
              else
                bif (((z5 e low high).2.2) != 0) then
                  false
                else
                  bif (((zf e items low high).2) != 0) then
                    false
                  else
                    bif ((zf e ((z5 e low high).1) low high).1) then
                      bif (((zf e ((z5 e low high).1) low high).2) == 0) then
                        bif (((zt e ((z5 e low high).1)).2) == 0) then
                          bif (((zt e items).2) == 0) then
                            true
                          else
                            false
                        else
                          false
                      else
                        false
                    else
                      bif (((zf e ((z5 e low high).1) low high).2) == 0) then
                        bif (((zt e ((z5 e low high).1)).2) == 0) then
                          bif (((zt e items).2) == 0) then
                            false
                          else
                            false
                        else
                          false
                      else
                        false
            else
              bif ((zf e items low high).1) then
                bif (((z5 e low high).2.2) != 0) then
                  false
                else
                  bif (((zf e items low high).2) != 0) then
                    false
                  else
                    false
              else
                bif (((z5 e low high).2.2) != 0) then
                  false
                else
                  bif (((zf e items low high).2) != 0) then
                    false
                  else
                    bif (((((z5 e low high).1).l.length : Nat) : Int) == 0) then
                      true
                    else
                      false
    else
      true
  else
    true

def zk (e : S_Estate) (items : GS Int) : List Ora := [.pure (B true), .dec true, .pure (B (r_Valid e)), .dec true, .pure (B (r_Right e items)), .dec true, .dec false, .dec false]

def zn (e : S_Estate) (low : Int) (high : Int) : List Ora := [.dec false, .pure (.tup [.sl (((z5 e low high).1).nl) ((((z5 e low high).1).l).map I) (zsl (((z5 e low high).1).nl) 1) none, B ((z5 e low high).2.1), I ((z5 e low high).2.2)])]

def l_OrdersCheapest_o3 (e : S_Estate) (items : GS Int) (low : Int) (high : Int) : List Ora := [.dec true, .pure (.tup [B ((zf e items low high).1), I ((zf e items low high).2)]), .dec true, .dec false]

def l_OrdersCheapest_o4 (e : S_Estate) (low : Int) (high : Int) : List Ora := [.dec false, .pure (.tup [B ((zf e ((z5 e low high).1) low high).1), I ((zf e ((z5 e low high).1) low high).2)])]

def l_OrdersCheapest_o5 (e : S_Estate) (items : GS Int) (low : Int) (high : Int) : List Ora := [.dec true, .pure (.tup [I ((zt e ((z5 e low high).1)).1), I ((zt e ((z5 e low high).1)).2)]), .pure (.tup [I ((zt e items).1), I ((zt e items).2)])]

def l_OrdersCheapest_o6 (e : S_Estate) (items : GS Int) (low : Int) (high : Int) : List Ora := [.dec false, .pure (.tup [I ((zt e ((z5 e low high).1)).1), I ((zt e ((z5 e low high).1)).2)]), .pure (.tup [I ((zt e items).1), I ((zt e items).2)])]

def l_OrdersCheapest_o7 (e : S_Estate) (items : GS Int) (low : Int) (high : Int) : List Ora := [.dec true, .pure (.tup [B ((zf e items low high).1), I ((zf e items low high).2)]), .dec false, .dec false]

def l_OrdersCheapest_o8 (e : S_Estate) (low : Int) (high : Int) : List Ora := [.dec false, .pure (.tup [B ((zf e ((z5 e low high).1) low high).1), I ((zf e ((z5 e low high).1) low high).2)])]

def l_OrdersCheapest_o9 (e : S_Estate) (items : GS Int) (low : Int) (high : Int) : List Ora := [.dec true, .pure (.tup [I ((zt e ((z5 e low high).1)).1), I ((zt e ((z5 e low high).1)).2)]), .pure (.tup [I ((zt e items).1), I ((zt e items).2)])]

def l_OrdersCheapest_o10 (e : S_Estate) (items : GS Int) (low : Int) (high : Int) : List Ora := [.dec false, .pure (.tup [I ((zt e ((z5 e low high).1)).1), I ((zt e ((z5 e low high).1)).2)]), .pure (.tup [I ((zt e items).1), I ((zt e items).2)])]

def l_OrdersCheapest_o11 (e : S_Estate) (items : GS Int) (low : Int) (high : Int) : List Ora := [.dec false, .pure (.tup [B ((zf e items low high).1), I ((zf e items low high).2)]), .dec true, .dec false]

def l_OrdersCheapest_o12 (e : S_Estate) (items : GS Int) (low : Int) (high : Int) : List Ora := [.dec false, .pure (.tup [B ((zf e items low high).1), I ((zf e items low high).2)]), .dec false, .dec false]

theorem T_l_OrdersCheapest (e : S_Estate) (items : GS Int) (low : Int) (high : Int) (hL : items.l.length ≤ 9223372036854775807) : (lim cfg).pure 8 [S_Estate.D e, GS.D I 1 items, I low, I high] = some (B (l_OrdersCheapest e items low high)) := by
  unfold l_OrdersCheapest
  cases h1 : (r_Valid e) with
  | true =>
    have g1 := valid_len h1
    cases h2 : (r_Right e items) with
    | true =>
      obtain ⟨gb2, g2⟩ := rright_all (by assumption) (by assumption) h2
      cases h3 : decide (low ≥ high) with
      | true =>
        have g3 := of_decide_eq_true h3
        exact zb [.pure (B true), .dec true, .pure (B (r_Valid e)), .dec true, .pure (B (r_Right e items)), .dec true, .dec true] (And.intro h3 (And.intro h2 (And.intro (zS e items (by first | assumption | omega)) (And.intro h1 (And.intro (zO e) (And.intro (Eq.refl true) (And.intro sane_ok trivial))))))) (by kernel_rfl)
      | false =>
        have g3 := of_decide_eq_false h3
        cases h4 : decide (low < (-1099511627776)) with
        | true =>
          have g4 := of_decide_eq_true h4
          exact zb [.pure (B true), .dec true, .pure (B (r_Valid e)), .dec true, .pure (B (r_Right e items)), .dec true, .dec false, .dec true] (And.intro h4 (And.intro h3 (And.intro h2 (And.intro (zS e items (by first | assumption | omega)) (And.intro h1 (And.intro (zO e) (And.intro (Eq.refl true) (And.intro sane_ok trivial)))))))) (by kernel_rfl)
        | false =>
          have g4 := of_decide_eq_false h4
          cases h5 : decide (high > 1099511627776) with
          | true =>
            have g5 := of_decide_eq_true h5
            exact zb ((zk e items) ++ [.dec true]) (And.intro h5 (And.intro h4 (And.intro h3 (And.intro h2 (And.intro (zS e items (by first | assumption | omega)) (And.intro h1 (And.intro (zO e) (And.intro (Eq.refl true) (And.intro sane_ok trivial))))))))) (by kernel_rfl)
          | false =>
            have g5 := of_decide_eq_false h5
            cases h6 : ((z5 e low high).2.1) with
            | true =>
              have p1 := (T_orders_Decides e items low high (by first | assumption | omega))
              cases h7 : ((zf e items low high).1) with
              | true =>
                cases h8 : (((z5 e low high).2.2) != 0) with
                | true =>
                  have g8 := bne_true h8
                  exact zb ((zk e items) ++ ((zn e low high) ++ [.dec true, .pure (.tup [B ((zf e items low high).1), I ((zf e items low high).2)]), .dec true, .dec true])) (And.intro h8 (And.intro h7 (And.intro p1 (And.intro h6 (And.intro (zo e low high) (And.intro h5 (And.intro h4 (And.intro h3 (And.intro h2 (And.intro (zS e items (by first | assumption | omega)) (And.intro h1 (And.intro (zO e) (And.intro (Eq.refl true) (And.intro sane_ok trivial)))))))))))))) (by kernel_rfl)
                | false =>
                  have g8 := bne_false h8
                  cases h9 : (((zf e items low high).2) != 0) with
                  | true =>
                    have g9 := bne_true h9
                    exact zb ((zk e items) ++ ((zn e low high) ++ ((l_OrdersCheapest_o3 e items low high) ++ [.dec true]))) (And.intro h9 (And.intro h8 (And.intro h7 (And.intro p1 (And.intro h6 (And.intro (zo e low high) (And.intro h5 (And.intro h4 (And.intro h3 (And.intro h2 (And.intro (zS e items (by first | assumption | omega)) (And.intro h1 (And.intro (zO e) (And.intro (Eq.refl true) (And.intro sane_ok trivial))))))))))))))) (by kernel_rfl)
                  | false =>
                    have g9 := bne_false h9
                    have p2 := (T_orders_Decides e ((z5 e low high).1) low high cheap_len)
                    cases h10 : ((zf e ((z5 e low high).1) low high).1) with
                    | true =>
                      have p3 := (zM e ((z5 e low high).1) cheap_len)
                      cases h11 : (((zf e ((z5 e low high).1) low high).2) == 0) with
                      | true =>
                        have g11 := eq_of_beq h11
                        cases h12 : (((zt e ((z5 e low high).1)).2) == 0) with
                        | true =>
                          have g12 := eq_of_beq h12
                          cases h13 : (((zt e items).2) == 0) with
                          | true =>
                            have g13 := eq_of_beq h13
                            cases h14 : decide (((zt e ((z5 e low high).1)).1) ≤ ((zt e items).1)) with
                            | true =>
                              have g14 := of_decide_eq_true h14
                              exact zb ((zk e items) ++ ((zn e low high) ++ ((l_OrdersCheapest_o3 e items low high) ++ ((l_OrdersCheapest_o4 e low high) ++ ((l_OrdersCheapest_o5 e items low high) ++ [.dec true, .dec true, .dec true, .dec true]))))) (And.intro h14 (And.intro h13 (And.intro h12 (And.intro h11 (And.intro (zM e items (by first | assumption | omega)) (And.intro p3 (And.intro h10 (And.intro p2 (And.intro h9 (And.intro h8 (And.intro h7 (And.intro p1 (And.intro h6 (And.intro (zo e low high) (And.intro h5 (And.intro h4 (And.intro h3 (And.intro h2 (And.intro (zS e items (by first | assumption | omega)) (And.intro h1 (And.intro (zO e) (And.intro (Eq.refl true) (And.intro sane_ok trivial))))))))))))))))))))))) (by kernel_rfl)
                            | false =>
                              have g14 := of_decide_eq_false h14
                              exact zb ((zk e items) ++ ((zn e low high) ++ ((l_OrdersCheapest_o3 e items low high) ++ ((l_OrdersCheapest_o4 e low high) ++ ((l_OrdersCheapest_o5 e items low high) ++ [.dec true, .dec true, .dec true, .dec false]))))) (And.intro h14 (And.intro h13 (And.intro h12 (And.intro h11 (And.intro (zM e items (by first | assumption | omega)) (And.intro p3 (And.intro h10 (And.intro p2 (And.intro h9 (And.intro h8 (And.intro h7 (And.intro p1 (And.intro h6 (And.intro (zo e low high) (And.intro h5 (And.intro h4 (And.intro h3 (And.intro h2 (And.intro (zS e items (by first | assumption | omega)) (And.intro h1 (And.intro (zO e) (And.intro (Eq.refl true) (And.intro sane_ok trivial))))))))))))))))))))))) (by kernel_rfl)
                          | false =>
                            have g13 := ne_of_beq_false h13
                            exact zb ((zk e items) ++ ((zn e low high) ++ ((l_OrdersCheapest_o3 e items low high) ++ ((l_OrdersCheapest_o4 e low high) ++ ((l_OrdersCheapest_o5 e items low high) ++ [.dec true, .dec true, .dec false]))))) (And.intro h13 (And.intro h12 (And.intro h11 (And.intro (zM e items (by first | assumption | omega)) (And.intro p3 (And.intro h10 (And.intro p2 (And.intro h9 (And.intro h8 (And.intro h7 (And.intro p1 (And.intro h6 (And.intro (zo e low high) (And.intro h5 (And.intro h4 (And.intro h3 (And.intro h2 (And.intro (zS e items (by first | assumption | omega)) (And.intro h1 (And.intro (zO e) (And.intro (Eq.refl true) (And.intro sane_ok trivial)))))))))))))))))))))) (by kernel_rfl)
                        | false =>
                          have g12 := ne_of_beq_false h12
                          exact zb ((zk e items) ++ ((zn e low high) ++ ((l_OrdersCheapest_o3 e items low high) ++ ((l_OrdersCheapest_o4 e low high) ++ ((l_OrdersCheapest_o5 e items low high) ++ [.dec true, .dec false]))))) (And.intro h12 (And.intro h11 (And.intro (zM e items (by first | assumption | omega)) (And.intro p3 (And.intro h10 (And.intro p2 (And.intro h9 (And.intro h8 (And.intro h7 (And.intro p1 (And.intro h6 (And.intro (zo e low high) (And.intro h5 (And.intro h4 (And.intro h3 (And.intro h2 (And.intro (zS e items (by first | assumption | omega)) (And.intro h1 (And.intro (zO e) (And.intro (Eq.refl true) (And.intro sane_ok trivial))))))))))))))))))))) (by kernel_rfl)
                      | false =>
                        have g11 := ne_of_beq_false h11
                        exact zb ((zk e items) ++ ((zn e low high) ++ ((l_OrdersCheapest_o3 e items low high) ++ ((l_OrdersCheapest_o4 e low high) ++ ((l_OrdersCheapest_o5 e items low high) ++ [.dec false]))))) (And.intro h11 (And.intro (zM e items (by first | assumption | omega)) (And.intro p3 (And.intro h10 (And.intro p2 (And.intro h9 (And.intro h8 (And.intro h7 (And.intro p1 (And.intro h6 (And.intro (zo e low high) (And.intro h5 (And.intro h4 (And.intro h3 (And.intro h2 (And.intro (zS e items (by first | assumption | omega)) (And.intro h1 (And.intro (zO e) (And.intro (Eq.refl true) (And.intro sane_ok trivial)))))))))))))))))))) (by kernel_rfl)
                    | false =>
                      have p4 := (zM e ((z5 e low high).1) cheap_len)
                      cases h15 : (((zf e ((z5 e low high).1) low high).2) == 0) with
                      | true =>
                        have g15 := eq_of_beq h15
                        cases h16 : (((zt e ((z5 e low high).1)).2) == 0) with
                        | true =>
                          have g16 := eq_of_beq h16
                          cases h17 : (((zt e items).2) == 0) with
                          | true =>
                            have g17 := eq_of_beq h17
                            exact zb ((zk e items) ++ ((zn e low high) ++ ((l_OrdersCheapest_o3 e items low high) ++ ((l_OrdersCheapest_o4 e low high) ++ ((l_OrdersCheapest_o6 e items low high) ++ [.dec true, .dec true, .dec true]))))) (And.intro h17 (And.intro h16 (And.intro h15 (And.intro (zM e items (by first | assumption | omega)) (And.intro p4 (And.intro h10 (And.intro p2 (And.intro h9 (And.intro h8 (And.intro h7 (And.intro p1 (And.intro h6 (And.intro (zo e low high) (And.intro h5 (And.intro h4 (And.intro h3 (And.intro h2 (And.intro (zS e items (by first | assumption | omega)) (And.intro h1 (And.intro (zO e) (And.intro (Eq.refl true) (And.intro sane_ok trivial)))))))))))))))))))))) (by kernel_rfl)
                          | false =>
                            have g17 := ne_of_beq_false h17
                            exact zb ((zk e items) ++ ((zn e low high) ++ ((l_OrdersCheapest_o3 e items low high) ++ ((l_OrdersCheapest_o4 e low high) ++ ((l_OrdersCheapest_o6 e items low high) ++ [.dec true, .dec true, .dec false]))))) (And.intro h17 (And.intro h16 (And.intro h15 (And.intro (zM e items (by first | assumption | omega)) (And.intro p4 (And.intro h10 (And.intro p2 (And.intro h9 (And.intro h8 (And.intro h7 (And.intro p1 (And.intro h6 (And.intro (zo e low high) (And.intro h5 (And.intro h4 (And.intro h3 (And.intro h2 (And.intro (zS e items (by first | assumption | omega)) (And.intro h1 (And.intro (zO e) (And.intro (Eq.refl true) (And.intro sane_ok trivial)))))))))))))))))))))) (by kernel_rfl)
                        | false =>
                          have g16 := ne_of_beq_false h16
                          exact zb ((zk e items) ++ ((zn e low high) ++ ((l_OrdersCheapest_o3 e items low high) ++ ((l_OrdersCheapest_o4 e low high) ++ ((l_OrdersCheapest_o6 e items low high) ++ [.dec true, .dec false]))))) (And.intro h16 (And.intro h15 (And.intro (zM e items (by first | assumption | omega)) (And.intro p4 (And.intro h10 (And.intro p2 (And.intro h9 (And.intro h8 (And.intro h7 (And.intro p1 (And.intro h6 (And.intro (zo e low high) (And.intro h5 (And.intro h4 (And.intro h3 (And.intro h2 (And.intro (zS e items (by first | assumption | omega)) (And.intro h1 (And.intro (zO e) (And.intro (Eq.refl true) (And.intro sane_ok trivial))))))))))))))))))))) (by kernel_rfl)
                      | false =>
                        have g15 := ne_of_beq_false h15
                        exact zb ((zk e items) ++ ((zn e low high) ++ ((l_OrdersCheapest_o3 e items low high) ++ ((l_OrdersCheapest_o4 e low high) ++ ((l_OrdersCheapest_o6 e items low high) ++ [.dec false]))))) (And.intro h15 (And.intro (zM e items (by first | assumption | omega)) (And.intro p4 (And.intro h10 (And.intro p2 (And.intro h9 (And.intro h8 (And.intro h7 (And.intro p1 (And.intro h6 (And.intro (zo e low high) (And.intro h5 (And.intro h4 (And.intro h3 (And.intro h2 (And.intro (zS e items (by first | assumption | omega)) (And.intro h1 (And.intro (zO e) (And.intro (Eq.refl true) (And.intro sane_ok trivial)))))))))))))))))))) (by kernel_rfl)
              | false =>
                cases h18 : (((z5 e low high).2.2) != 0) with
                | true =>
                  have g18 := bne_true h18
                  exact zb ((zk e items) ++ ((zn e low high) ++ [.dec true, .pure (.tup [B ((zf e items low high).1), I ((zf e items low high).2)]), .dec false, .dec true])) (And.intro h18 (And.intro h7 (And.intro p1 (And.intro h6 (And.intro (zo e low high) (And.intro h5 (And.intro h4 (And.intro h3 (And.intro h2 (And.intro (zS e items (by first | assumption | omega)) (And.intro h1 (And.intro (zO e) (And.intro (Eq.refl true) (And.intro sane_ok trivial)))))))))))))) (by kernel_rfl)
                | false =>
                  have g18 := bne_false h18
                  cases h19 : (((zf e items low high).2) != 0) with
                  | true =>
                    have g19 := bne_true h19
                    exact zb ((zk e items) ++ ((zn e low high) ++ ((l_OrdersCheapest_o7 e items low high) ++ [.dec true]))) (And.intro h19 (And.intro h18 (And.intro h7 (And.intro p1 (And.intro h6 (And.intro (zo e low high) (And.intro h5 (And.intro h4 (And.intro h3 (And.intro h2 (And.intro (zS e items (by first | assumption | omega)) (And.intro h1 (And.intro (zO e) (And.intro (Eq.refl true) (And.intro sane_ok trivial))))))))))))))) (by kernel_rfl)
                  | false =>
                    have g19 := bne_false h19
                    have p5 := (T_orders_Decides e ((z5 e low high).1) low high cheap_len)
                    cases h20 : ((zf e ((z5 e low high).1) low high).1) with
                    | true =>
                      have p6 := (zM e ((z5 e low high).1) cheap_len)
                      cases h21 : (((zf e ((z5 e low high).1) low high).2) == 0) with
                      | true =>
                        have g21 := eq_of_beq h21
                        cases h22 : (((zt e ((z5 e low high).1)).2) == 0) with
                        | true =>
                          have g22 := eq_of_beq h22
                          cases h23 : (((zt e items).2) == 0) with
                          | true =>
                            have g23 := eq_of_beq h23
                            exact zb ((zk e items) ++ ((zn e low high) ++ ((l_OrdersCheapest_o7 e items low high) ++ ((l_OrdersCheapest_o8 e low high) ++ ((l_OrdersCheapest_o9 e items low high) ++ [.dec true, .dec true, .dec true]))))) (And.intro h23 (And.intro h22 (And.intro h21 (And.intro (zM e items (by first | assumption | omega)) (And.intro p6 (And.intro h20 (And.intro p5 (And.intro h19 (And.intro h18 (And.intro h7 (And.intro p1 (And.intro h6 (And.intro (zo e low high) (And.intro h5 (And.intro h4 (And.intro h3 (And.intro h2 (And.intro (zS e items (by first | assumption | omega)) (And.intro h1 (And.intro (zO e) (And.intro (Eq.refl true) (And.intro sane_ok trivial)))))))))))))))))))))) (by kernel_rfl)
                          | false =>
                            have g23 := ne_of_beq_false h23
                            exact zb ((zk e items) ++ ((zn e low high) ++ ((l_OrdersCheapest_o7 e items low high) ++ ((l_OrdersCheapest_o8 e low high) ++ ((l_OrdersCheapest_o9 e items low high) ++ [.dec true, .dec true, .dec false]))))) (And.intro h23 (And.intro h22 (And.intro h21 (And.intro (zM e items (by first | assumption | omega)) (And.intro p6 (And.intro h20 (And.intro p5 (And.intro h19 (And.intro h18 (And.intro h7 (And.intro p1 (And.intro h6 (And.intro (zo e low high) (And.intro h5 (And.intro h4 (And.intro h3 (And.intro h2 (And.intro (zS e items (by first | assumption | omega)) (And.intro h1 (And.intro (zO e) (And.intro (Eq.refl true) (And.intro sane_ok trivial)))))))))))))))))))))) (by kernel_rfl)
                        | false =>
                          have g22 := ne_of_beq_false h22
                          exact zb ((zk e items) ++ ((zn e low high) ++ ((l_OrdersCheapest_o7 e items low high) ++ ((l_OrdersCheapest_o8 e low high) ++ ((l_OrdersCheapest_o9 e items low high) ++ [.dec true, .dec false]))))) (And.intro h22 (And.intro h21 (And.intro (zM e items (by first | assumption | omega)) (And.intro p6 (And.intro h20 (And.intro p5 (And.intro h19 (And.intro h18 (And.intro h7 (And.intro p1 (And.intro h6 (And.intro (zo e low high) (And.intro h5 (And.intro h4 (And.intro h3 (And.intro h2 (And.intro (zS e items (by first | assumption | omega)) (And.intro h1 (And.intro (zO e) (And.intro (Eq.refl true) (And.intro sane_ok trivial))))))))))))))))))))) (by kernel_rfl)
                      | false =>
                        have g21 := ne_of_beq_false h21
                        exact zb ((zk e items) ++ ((zn e low high) ++ ((l_OrdersCheapest_o7 e items low high) ++ ((l_OrdersCheapest_o8 e low high) ++ ((l_OrdersCheapest_o9 e items low high) ++ [.dec false]))))) (And.intro h21 (And.intro (zM e items (by first | assumption | omega)) (And.intro p6 (And.intro h20 (And.intro p5 (And.intro h19 (And.intro h18 (And.intro h7 (And.intro p1 (And.intro h6 (And.intro (zo e low high) (And.intro h5 (And.intro h4 (And.intro h3 (And.intro h2 (And.intro (zS e items (by first | assumption | omega)) (And.intro h1 (And.intro (zO e) (And.intro (Eq.refl true) (And.intro sane_ok trivial)))))))))))))))))))) (by kernel_rfl)
                    | false =>
                      have p7 := (zM e ((z5 e low high).1) cheap_len)
                      cases h24 : (((zf e ((z5 e low high).1) low high).2) == 0) with
                      | true =>
                        have g24 := eq_of_beq h24
                        cases h25 : (((zt e ((z5 e low high).1)).2) == 0) with
                        | true =>
                          have g25 := eq_of_beq h25
                          cases h26 : (((zt e items).2) == 0) with
                          | true =>
                            have g26 := eq_of_beq h26
                            exact zb ((zk e items) ++ ((zn e low high) ++ ((l_OrdersCheapest_o7 e items low high) ++ ((l_OrdersCheapest_o8 e low high) ++ ((l_OrdersCheapest_o10 e items low high) ++ [.dec true, .dec true, .dec true]))))) (And.intro h26 (And.intro h25 (And.intro h24 (And.intro (zM e items (by first | assumption | omega)) (And.intro p7 (And.intro h20 (And.intro p5 (And.intro h19 (And.intro h18 (And.intro h7 (And.intro p1 (And.intro h6 (And.intro (zo e low high) (And.intro h5 (And.intro h4 (And.intro h3 (And.intro h2 (And.intro (zS e items (by first | assumption | omega)) (And.intro h1 (And.intro (zO e) (And.intro (Eq.refl true) (And.intro sane_ok trivial)))))))))))))))))))))) (by kernel_rfl)
                          | false =>
                            have g26 := ne_of_beq_false h26
                            exact zb ((zk e items) ++ ((zn e low high) ++ ((l_OrdersCheapest_o7 e items low high) ++ ((l_OrdersCheapest_o8 e low high) ++ ((l_OrdersCheapest_o10 e items low high) ++ [.dec true, .dec true, .dec false]))))) (And.intro h26 (And.intro h25 (And.intro h24 (And.intro (zM e items (by first | assumption | omega)) (And.intro p7 (And.intro h20 (And.intro p5 (And.intro h19 (And.intro h18 (And.intro h7 (And.intro p1 (And.intro h6 (And.intro (zo e low high) (And.intro h5 (And.intro h4 (And.intro h3 (And.intro h2 (And.intro (zS e items (by first | assumption | omega)) (And.intro h1 (And.intro (zO e) (And.intro (Eq.refl true) (And.intro sane_ok trivial)))))))))))))))))))))) (by kernel_rfl)
                        | false =>
                          have g25 := ne_of_beq_false h25
                          exact zb ((zk e items) ++ ((zn e low high) ++ ((l_OrdersCheapest_o7 e items low high) ++ ((l_OrdersCheapest_o8 e low high) ++ ((l_OrdersCheapest_o10 e items low high) ++ [.dec true, .dec false]))))) (And.intro h25 (And.intro h24 (And.intro (zM e items (by first | assumption | omega)) (And.intro p7 (And.intro h20 (And.intro p5 (And.intro h19 (And.intro h18 (And.intro h7 (And.intro p1 (And.intro h6 (And.intro (zo e low high) (And.intro h5 (And.intro h4 (And.intro h3 (And.intro h2 (And.intro (zS e items (by first | assumption | omega)) (And.intro h1 (And.intro (zO e) (And.intro (Eq.refl true) (And.intro sane_ok trivial))))))))))))))))))))) (by kernel_rfl)
                      | false =>
                        have g24 := ne_of_beq_false h24
                        exact zb ((zk e items) ++ ((zn e low high) ++ ((l_OrdersCheapest_o7 e items low high) ++ ((l_OrdersCheapest_o8 e low high) ++ ((l_OrdersCheapest_o10 e items low high) ++ [.dec false]))))) (And.intro h24 (And.intro (zM e items (by first | assumption | omega)) (And.intro p7 (And.intro h20 (And.intro p5 (And.intro h19 (And.intro h18 (And.intro h7 (And.intro p1 (And.intro h6 (And.intro (zo e low high) (And.intro h5 (And.intro h4 (And.intro h3 (And.intro h2 (And.intro (zS e items (by first | assumption | omega)) (And.intro h1 (And.intro (zO e) (And.intro (Eq.refl true) (And.intro sane_ok trivial)))))))))))))))))))) (by kernel_rfl)
            | false =>
              have p8 := (T_orders_Decides e items low high (by first | assumption | omega))
              cases h27 : ((zf e items low high).1) with
              | true =>
                cases h28 : (((z5 e low high).2.2) != 0) with
                | true =>
                  have g28 := bne_true h28
                  exact zb ((zk e items) ++ ((zn e low high) ++ [.dec false, .pure (.tup [B ((zf e items low high).1), I ((zf e items low high).2)]), .dec true, .dec true])) (And.intro h28 (And.intro h27 (And.intro p8 (And.intro h6 (And.intro (zo e low high) (And.intro h5 (And.intro h4 (And.intro h3 (And.intro h2 (And.intro (zS e items (by first | assumption | omega)) (And.intro h1 (And.intro (zO e) (And.intro (Eq.refl true) (And.intro sane_ok trivial)))))))))))))) (by kernel_rfl)
                | false =>
                  have g28 := bne_false h28
                  cases h29 : (((zf e items low high).2) != 0) with
                  | true =>
                    have g29 := bne_true h29
                    exact zb ((zk e items) ++ ((zn e low high) ++ ((l_OrdersCheapest_o11 e items low high) ++ [.dec true]))) (And.intro h29 (And.intro h28 (And.intro h27 (And.intro p8 (And.intro h6 (And.intro (zo e low high) (And.intro h5 (And.intro h4 (And.intro h3 (And.intro h2 (And.intro (zS e items (by first | assumption | omega)) (And.intro h1 (And.intro (zO e) (And.intro (Eq.refl true) (And.intro sane_ok trivial))))))))))))))) (by kernel_rfl)
                  | false =>
                    have g29 := bne_false h29
                    exact zb ((zk e items) ++ ((zn e low high) ++ ((l_OrdersCheapest_o11 e items low high) ++ [.dec false]))) (And.intro h29 (And.intro h28 (And.intro h27 (And.intro p8 (And.intro h6 (And.intro (zo e low high) (And.intro h5 (And.intro h4 (And.intro h3 (And.intro h2 (And.intro (zS e items (by first | assumption | omega)) (And.intro h1 (And.intro (zO e) (And.intro (Eq.refl true) (And.intro sane_ok trivial))))))))))))))) (by kernel_rfl)
              | false =>
                cases h30 : (((z5 e low high).2.2) != 0) with
                | true =>
                  have g30 := bne_true h30
                  exact zb ((zk e items) ++ ((zn e low high) ++ [.dec false, .pure (.tup [B ((zf e items low high).1), I ((zf e items low high).2)]), .dec false, .dec true])) (And.intro h30 (And.intro h27 (And.intro p8 (And.intro h6 (And.intro (zo e low high) (And.intro h5 (And.intro h4 (And.intro h3 (And.intro h2 (And.intro (zS e items (by first | assumption | omega)) (And.intro h1 (And.intro (zO e) (And.intro (Eq.refl true) (And.intro sane_ok trivial)))))))))))))) (by kernel_rfl)
                | false =>
                  have g30 := bne_false h30
                  cases h31 : (((zf e items low high).2) != 0) with
                  | true =>
                    have g31 := bne_true h31
                    exact zb ((zk e items) ++ ((zn e low high) ++ ((l_OrdersCheapest_o12 e items low high) ++ [.dec true]))) (And.intro h31 (And.intro h30 (And.intro h27 (And.intro p8 (And.intro h6 (And.intro (zo e low high) (And.intro h5 (And.intro h4 (And.intro h3 (And.intro h2 (And.intro (zS e items (by first | assumption | omega)) (And.intro h1 (And.intro (zO e) (And.intro (Eq.refl true) (And.intro sane_ok trivial))))))))))))))) (by kernel_rfl)
                  | false =>
                    have g31 := bne_false h31
                    have p9 := (zr I ((z5 e low high).1))
                    cases h32 : (((((z5 e low high).1).l.length : Nat) : Int) == 0) with
                    | true =>
                      have g32 := eq_of_beq h32
                      exact zb ((zk e items) ++ ((zn e low high) ++ ((l_OrdersCheapest_o12 e items low high) ++ [.dec false, .rw 74 (I ((((z5 e low high).1).l.length : Nat) : Int)), .dec true]))) (And.intro h32 (And.intro p9 (And.intro h31 (And.intro h30 (And.intro h27 (And.intro p8 (And.intro h6 (And.intro (zo e low high) (And.intro h5 (And.intro h4 (And.intro h3 (And.intro h2 (And.intro (zS e items (by first | assumption | omega)) (And.intro h1 (And.intro (zO e) (And.intro (Eq.refl true) (And.intro sane_ok trivial))))))))))))))))) (by kernel_rfl)
                    | false =>
                      have g32 := ne_of_beq_false h32
                      exact zb ((zk e items) ++ ((zn e low high) ++ ((l_OrdersCheapest_o12 e items low high) ++ [.dec false, .rw 74 (I ((((z5 e low high).1).l.length : Nat) : Int)), .dec false]))) (And.intro h32 (And.intro p9 (And.intro h31 (And.intro h30 (And.intro h27 (And.intro p8 (And.intro h6 (And.intro (zo e low high) (And.intro h5 (And.intro h4 (And.intro h3 (And.intro h2 (And.intro (zS e items (by first | assumption | omega)) (And.intro h1 (And.intro (zO e) (And.intro (Eq.refl true) (And.intro sane_ok trivial))))))))))))))))) (by kernel_rfl)
    | false =>
      exact zb [.pure (B true), .dec true, .pure (B (r_Valid e)), .dec true, .pure (B (r_Right e items)), .dec false] (And.intro h2 (And.intro (zS e items (by first | assumption | omega)) (And.intro h1 (And.intro (zO e) (And.intro (Eq.refl true) (And.intro sane_ok trivial)))))) (by kernel_rfl)
  | false =>
    exact zb [.pure (B true), .dec true, .pure (B (r_Valid e)), .dec false] (And.intro h1 (And.intro (zO e) (And.intro (Eq.refl true) (And.intro sane_ok trivial)))) (by kernel_rfl)
end Go.VS

/-
  VS, part P: what arguments that read as data stand for; what a law's call leaves. (A text of this claim's own; nothing of it is trusted.)
-/
namespace Go.VS
open Go Go.RowKit Go.ChangeShapes Go.WideShapes

def memOf (w : World) : Mem := fun b o => w.cell? ⟨b, o, none⟩
theorem memOf_ok (w : World) : MOK (memOf w) w := fun _ _ _ h => h

/-- Which cells a value of a type may have. -/
def Sh (C : Cfg) : Nat → TypeId → List D → Prop
  | 0, _, _ => False
  | f + 1, t, ds => match C.ty t with
    | some ty => match ty.kind with
      | .int k => ∃ n, ds = [.val (.int k n)] ∧ k.min ≤ n ∧ n ≤ k.max
      | .bool => ∃ b, ds = [B b]
      | .str => ∃ s : ByteArray, ds = [.val (.string s)] ∧ s.size ≤ maxLen
      | .struct fs => ds.length = ty.size ∧ ∀ p ∈ fs, ∃ tf, C.ty p.1 = some tf ∧ Sh C f p.1 ((ds.drop p.2).take tf.size)
      | .arr n e => ds.length = ty.size ∧ ∃ te, C.ty e = some te ∧ ∀ i, i < n → Sh C f e ((ds.drop (i * te.size)).take te.size)
      | .slice e => ds = [.sl true [] 0 none] ∨ ∃ els te, C.ty e = some te ∧ ds = [.sl false els te.size none] ∧ els.length ≤ maxLen ∧
          ∀ d ∈ els, Sh C f e d.cells ∧ (te.isAgg = true → d = .agg d.cells) ∧ (te.isAgg = false → d.cells = [d])
      | _ => False
    | none => False
/-- Types without slices. -/
def flatT (C : Cfg) : Nat → TypeId → Bool
  | 0, _ => false
  | f + 1, t => match C.ty t with
    | some ty => match ty.kind with
      | .int _ => true
      | .bool => true
      | .str => true
      | .struct fs => fs.all fun p => flatT C f p.1
      | .arr _ e => flatT C f e
      | _ => false
    | none => false
/-- Types with slices whose elements have none. -/
def topT (C : Cfg) : Nat → TypeId → Bool
  | 0, _ => false
  | f + 1, t => match C.ty t with
    | some ty => match ty.kind with
      | .int _ => true
      | .bool => true
      | .str => true
      | .struct fs => fs.all fun p => topT C f p.1
      | .arr _ e => topT C f e
      | .slice e => flatT C f e
      | _ => false
    | none => false
theorem flat_top {C : Cfg} : ∀ {f : Nat} {t : TypeId}, flatT C f t = true → topT C f t = true
  | 0, _, h => by cases h
  | f + 1, t, h => by
    unfold flatT at h; unfold topT
    split at h
    · rename_i ty ht
      try rw [ht]
      try simp only []
      cases hk : ty.kind <;> rw [hk] at h <;> simp only [] at h ⊢ <;> (try (cases h; done))
      · exact flat_top h
      · simp only [List.all_eq_true] at h ⊢
        exact fun p hp => flat_top (h p hp)
    · cases h

def plainCells (cs : List Value) : Prop := ∀ v ∈ cs, ∀ a l c, v = .slice (some a) l c → a.spot = none

theorem cellsOf_of {P : Program} {t : TypeId} {ty : Ty} (h : tyOf P t = some ty) : P.cellsOf t = ty.size := by
  obtain ⟨i, d, hi, hd, hz, hk, hs, hb⟩ := tyOf_spec h
  simp [Program.cellsOf, hi, hs]

theorem list_parts {α : Type} (l : List α) (n k : Nat) (h : l.length = n * k) : l = (List.range n).flatMap fun i => (l.drop (i * k)).take k := by
  induction n generalizing l with
  | zero => simp at h ⊢; exact h
  | succ n ih =>
    rw [List.range_succ_eq_map, List.flatMap_cons]
    simp only [Nat.zero_mul, List.drop_zero, List.flatMap_map]
    have hl : (l.drop k).length = n * k := by rw [List.length_drop, h, Nat.add_mul]; omega
    have e := ih (l.drop k) hl
    have : (List.range n).flatMap (fun i => ((l.drop k).drop (i * k)).take k) = (List.range n).flatMap (fun i => (l.drop ((i + 1) * k)).take k) := by
      congr 1; funext i; rw [List.drop_drop]; congr 2; rw [Nat.add_mul]; omega
    rw [this] at e
    calc l = l.take k ++ l.drop k := (List.take_append_drop k l).symm
      _ = _ := by rw [← e]

/-- Parts that stand for parts, put together. -/
theorem zB.join {M : Mem} {Q : Nat → List D → Prop} : ∀ (n : Nat) (F : Nat → List Value), (∀ i, i < n → ∃ ds, zB M noLoc ds (F i) ∧ Q i ds) →
    ∃ G : Nat → List D, zB M noLoc ((List.range n).flatMap G) ((List.range n).flatMap F) ∧ ∀ i, i < n → zB M noLoc (G i) (F i) ∧ Q i (G i) := by
  intro n F h
  obtain ⟨G, hG⟩ := Go.Deep.choose_lt (α := List D) (p := fun i ds => zB M noLoc ds (F i) ∧ Q i ds) h
  refine ⟨G, ?_, hG⟩
  have : ∀ l : List Nat, (∀ i ∈ l, i < n) → zB M noLoc (l.flatMap G) (l.flatMap F) := by
    intro l
    induction l with
    | nil => intro _; simp [zB]
    | cons a l ih =>
      intro hl
      simp only [List.flatMap_cons]
      exact zB.append (hG a (hl a (by simp))).1 (ih fun i hi => hl i (List.mem_cons_of_mem _ hi))
  exact this _ fun i hi => by simpa using hi
theorem flatMap_part {α : Type} (n : Nat) (G : Nat → List α) (k : Nat) (h : ∀ i, i < n → (G i).length = k) (i : Nat) (hi : i < n) : (((List.range n).flatMap G).drop (i * k)).take k = G i := by
  induction n generalizing i G with
  | zero => omega
  | succ n ih =>
    rw [List.range_succ_eq_map, List.flatMap_cons, List.flatMap_map]
    have h0 := h 0 (by omega)
    cases i with
    | zero => simp [← h0]
    | succ i =>
      rw [List.drop_append, List.drop_eq_nil_of_le (by rw [h0, Nat.add_mul]; omega), List.nil_append, h0]
      have : (i + 1) * k - k = i * k := by rw [Nat.add_mul]; omega
      rw [this]
      exact ih (fun i => G (i + 1)) (fun i hi => h (i + 1) (by omega)) i (by omega)

/-- The fields of a struct cover its cells, one behind the other. -/
def rowed : Nat → List (Nat × Nat) → Option Nat
  | o, [] => some o
  | o, (off, size) :: r => if off = o then rowed (o + size) r else none
def rowedT (C : Cfg) : Nat → TypeId → Bool
  | 0, _ => false
  | f + 1, t => match C.ty t with
    | some ty => match ty.kind with
      | .int _ => ty.size == 1
      | .bool => ty.size == 1
      | .str => ty.size == 1
      | .slice e => ty.size == 1 && (match C.ty e with | some te => rowedT C f e && decide (0 < te.size) | none => false)
      | .struct fs => (fs.all fun p => rowedT C f p.1) && (match placesOf C fs with | some pl => rowed 0 pl == some ty.size | none => false)
      | .arr n e => rowedT C f e && (match C.ty e with | some te => ty.size == n * te.size | none => false)
      | _ => false
    | none => false

theorem rowed_parts {M : Mem} {cs : List Value} : ∀ (l : List (Nat × Nat)) (o n : Nat), rowed o l = some n → n ≤ cs.length → ∀ {Q : Nat → List D → Prop},
    (∀ i p, l[i]? = some p → ∃ ds, zB M noLoc ds ((cs.drop p.1).take p.2) ∧ Q i ds) →
    ∃ ds, zB M noLoc ds ((cs.drop o).take (n - o)) ∧ ds.length = n - o ∧ o ≤ n ∧ ∀ i p, l[i]? = some p → o ≤ p.1 ∧ Q i ((ds.drop (p.1 - o)).take p.2)
  | [], o, n, h, hn, Q, _ => by
    simp only [rowed, Option.some.injEq] at h; subst h
    exact ⟨[], by simp [zB], by simp, Nat.le_refl _, by simp⟩
  | (off, size) :: r, o, n, h, hn, Q, hq => by
    simp only [rowed] at h
    split at h
    · rename_i ho; subst ho
      obtain ⟨d0, h1, h2⟩ := hq 0 (off, size) rfl
      obtain ⟨ds, k1, k2, k3, k4⟩ := rowed_parts r (off + size) n h hn (Q := fun i => Q (i + 1)) (fun i p hp => hq (i + 1) p (by simpa using hp))
      have hl : d0.length = size := by rw [← h1.length, List.length_take, List.length_drop]; omega
      refine ⟨d0 ++ ds, ?_, by simp [hl, k2]; omega, by omega, fun i p hp => ?_⟩
      · have e : (cs.drop off).take (n - off) = (cs.drop off).take size ++ (cs.drop (off + size)).take (n - (off + size)) := by
          rw [show n - off = size + (n - (off + size)) by omega, List.take_add, List.drop_drop]
        rw [e]; exact h1.append k1
      · cases i with
        | zero => simp at hp; subst hp; simp [← hl]; simpa [hl] using h2
        | succ i =>
          obtain ⟨q1, q2⟩ := k4 i p (by simpa using hp)
          refine ⟨by omega, ?_⟩
          rw [List.drop_append, List.drop_eq_nil_of_le (by omega), List.nil_append, hl, show p.1 - off - size = p.1 - (off + size) by omega]
          exact q2
    · cases h

section
variable {H : Type} {enc : TypeId × Value → H} {C : Cfg} {w : World} {base : Nat} {sp : Nat → Bool} {held : Bool}

theorem placesOf_get : ∀ {fs : List (TypeId × Nat)} {pl : List (Nat × Nat)}, placesOf C fs = some pl → fs.length = pl.length ∧ ∀ (i : Nat) (p : Nat × Nat), pl[i]? = some p → ∃ t ty, fs[i]? = some (t, p.1) ∧ C.ty t = some ty ∧ ty.size = p.2
  | [], pl, h => by simp [placesOf] at h; subst h; simp
  | (t, off) :: r, pl, h => by
    simp only [placesOf] at h
    split at h
    · rename_i ty l h1 h2
      cases h
      obtain ⟨k1, k2⟩ := placesOf_get h2
      refine ⟨by simp [k1], fun i p hp => ?_⟩
      cases i with
      | zero => simp at hp; subst hp; exact ⟨t, ty, by simp, h1, rfl⟩
      | succ i => obtain ⟨t', ty', a, b, c⟩ := k2 i p (by simpa using hp); exact ⟨t', ty', by simpa using a, b, c⟩
    · cases h

theorem fieldsOf_get {fs : Array Field} {i : Nat} {p : TypeId × Nat} (h : (fs.toList.map fun f => (f.type, f.offset))[i]? = some p) : ∃ f : Field, fs[i]? = some f ∧ f.type = p.1 ∧ f.offset = p.2 := by
  rw [List.getElem?_map] at h
  cases hf : fs.toList[i]? with
  | none => rw [hf] at h; cases h
  | some f => rw [hf] at h; cases h; exact ⟨f, by simpa using hf, rfl, rfl⟩

/-- What reads as data has a deep value. -/
theorem trod_rep (hC : ∀ t ty, C.ty t = some ty → tyOf C.P t = some ty) : ∀ (f n : Nat) (t : TypeId) (cs : List Value) (x : DataW H × List MemPlace),
    DataW.trod enc C.P w base sp held n t cs = some x → topT C f t = true → rowedT C f t = true → (plainCells cs ∨ flatT C f t = true) →
    ∃ ds, zB (memOf w) noLoc ds cs ∧ Sh C f t ds
  | 0, _, _, _, _, _, h, _, _ => by cases h
  | f + 1, n, t, cs, x, h, ht, hw, hp => by
    unfold topT at ht
    split at ht
    case h_2 => cases ht
    rename_i ty hty
    have hto := hC _ _ hty
    obtain ⟨i, d, hi, hd, hz, hk, hs, hb⟩ := tyOf_spec hto
    unfold rowedT at hw
    rw [hty] at hw; simp only [] at hw
    unfold Sh
    rw [hty]; simp only []
    have hp' : plainCells cs ∨ (match ty.kind with | .int _ => true | .bool => true | .str => true | .struct fs => fs.all (fun p => flatT C f p.1) | .arr _ e => flatT C f e | _ => false) = true := by
      rcases hp with hp | hp
      · exact .inl hp
      · unfold flatT at hp; rw [hty] at hp; exact .inr hp
    clear hp
    cases d <;> simp only [tkOf] at hk <;> rw [hk] at ht hw hp' ⊢ <;> simp only [] at ht hw hp' ⊢ <;> (try (cases ht; done))
    case bool =>
      obtain ⟨b, rfl, _⟩ := DataW.trod_bool hd h
      exact ⟨[B b], by simp [zB, Rep], b, rfl⟩
    case int k =>
      obtain ⟨m, rfl, _, hwf⟩ := DataW.trod_int hd h
      simp only [Lit.wf, Bool.and_eq_true, decide_eq_true_eq] at hwf
      exact ⟨[.val (.int k m)], by simp [zB, Rep], m, rfl, hwf⟩
    case string =>
      obtain ⟨s, rfl, _, hsz⟩ := DataW.trod_string hd h
      exact ⟨[.val (.string s)], by simp [zB, Rep], s, rfl, hsz⟩
    case struct fs =>
      obtain ⟨xs, m, rfl, _, hl, hxl, hf⟩ := DataW.trod_struct hd h
      rw [cellsOf_of hto] at hl
      simp only [Bool.and_eq_true] at hw
      obtain ⟨hw1, hw2⟩ := hw
      split at hw2
      case h_2 => cases hw2
      rename_i pl hpl
      have hrow : rowed 0 pl = some ty.size := by simpa using hw2
      obtain ⟨hlen, hget⟩ := placesOf_get hpl
      obtain ⟨ds, k1, k2, _, k4⟩ := rowed_parts (M := memOf w) (cs := cs) pl 0 ty.size hrow (by omega) (Q := fun i ds => ∃ p, (fs.toList.map fun f => (f.type, f.offset))[i]? = some p ∧ Sh C f p.1 ds) (fun i p hp0 => by
        obtain ⟨t', ty', a, b, c⟩ := hget i p hp0
        obtain ⟨fd, e1, e2, e3⟩ := fieldsOf_get a
        simp only [] at e2 e3
        have hmem := List.mem_of_getElem? a
        simp only [List.all_eq_true] at ht hw1
        have hx := hf i fd e1
        have hil : i < xs.length := by rw [hxl]; exact (Array.getElem?_eq_some_iff.1 e1).1
        rw [List.getElem?_eq_getElem hil, e2, e3, cellsOf_of (hC _ _ b), c] at hx
        obtain ⟨ds, q1, q2⟩ := trod_rep hC f m _ _ _ hx (ht _ hmem) (hw1 _ hmem) (by
          rcases hp' with hp | hp
          · exact .inl fun v hv => hp v (List.mem_of_mem_drop (List.mem_of_mem_take hv))
          · simp only [List.all_eq_true] at hp; exact .inr (hp _ hmem))
        exact ⟨ds, q1, _, a, q2⟩)
      simp only [List.drop_zero, Nat.sub_zero] at k1 k2 k4
      rw [← hl, List.take_length] at k1
      refine ⟨ds, k1, k2, fun p hpm => ?_⟩
      obtain ⟨i, hi'⟩ := List.mem_iff_getElem?.1 hpm
      have hil : i < pl.length := by rw [← hlen]; exact (List.getElem?_eq_some_iff.1 hi').1
      obtain ⟨t', ty', a, b, c⟩ := hget i pl[i] (List.getElem?_eq_getElem hil)
      rw [hi'] at a; cases a
      obtain ⟨_, p', q1, q2⟩ := k4 i pl[i] (List.getElem?_eq_getElem hil)
      rw [hi'] at q1; cases q1
      exact ⟨ty', b, by rw [c]; exact q2⟩
    case array m e =>
      obtain ⟨xs, m', rfl, _, hl, hxl, hf⟩ := DataW.trod_array hd h
      rw [cellsOf_of hto] at hl
      simp only [Bool.and_eq_true] at hw
      obtain ⟨hw1, hw2⟩ := hw
      split at hw2
      case h_2 => cases hw2
      rename_i te hte
      have hsz : ty.size = m * te.size := by simpa using hw2
      have hce := cellsOf_of (hC _ _ hte)
      have hpart := list_parts cs m te.size (by rw [hl, hsz])
      obtain ⟨G, g1, g2⟩ := zB.join (M := memOf w) (Q := fun _ ds => Sh C f e ds) m (fun i => (cs.drop (i * te.size)).take te.size) (fun i hi => by
        have hx := hf i hi
        rw [List.getElem?_eq_getElem (by omega), hce] at hx
        exact trod_rep hC f m' _ _ _ hx ht hw1 (by
          rcases hp' with hp | hp
          · exact .inl fun v hv => hp v (List.mem_of_mem_drop (List.mem_of_mem_take hv))
          · exact .inr hp))
      rw [← hpart] at g1
      have hGl : ∀ i, i < m → (G i).length = te.size := by
        intro i hi
        rw [← (g2 i hi).1.length, List.length_take, List.length_drop, hl, hsz]
        have : (i + 1) * te.size ≤ m * te.size := Nat.mul_le_mul_right _ hi
        rw [Nat.add_mul] at this; omega
      refine ⟨_, g1, by rw [← g1.length]; exact hl, te, hte, fun i hi => ?_⟩
      rw [flatMap_part m G te.size hGl i hi]
      exact (g2 i hi).2
    case slice e =>
      simp only [Bool.and_eq_true] at hw
      obtain ⟨_, hw2⟩ := hw
      split at hw2
      case h_2 => cases hw2
      rename_i te hte
      simp only [Bool.and_eq_true, decide_eq_true_eq] at hw2
      obtain ⟨hw2, hpos⟩ := hw2
      have hce := cellsOf_of (hC _ _ hte)
      rcases Go.Deep.open_slice hd h with ⟨rfl, _⟩ | ⟨a, len, cap, m, n', Dd, Pl, rfl, hb, hl, hm, hmm, _, hx⟩
      · exact ⟨[.sl true [] 0 none], by simp [zB, Rep], .inl rfl⟩
      · have hlm : len ≤ m := by rw [hmm]; split <;> omega
        have hsp : a.spot = none := by
          rcases hp' with hp | hp
          · exact hp _ (by simp) a len cap rfl
          · cases hp
        obtain ⟨b, o, s⟩ := a
        simp only [] at hsp; subst hsp
        obtain ⟨G, hG⟩ := Go.Deep.choose_lt (α := D) (p := fun i d => (∃ u, Rep (memOf w) noLoc d u ∧ u.cells.size = te.size ∧ MemAt (memOf w) b (o + i * te.size) u.cells) ∧ Sh C f e d.cells ∧ (te.isAgg = true → d = .agg d.cells) ∧ (te.isAgg = false → d.cells = [d])) (n := len) (fun i hi => by
          obtain ⟨cs', c1, c2⟩ := hx i (by omega)
          obtain ⟨_, c3, c4⟩ := World.cells?_some c1
          obtain ⟨ds, q1, q2⟩ := trod_rep hC f n' e cs' _ c2 (flat_top ht) hw2 (.inr ht)
          rw [hce] at c3 c4
          have hM : MemAt (memOf w) b (o + i * te.size) cs'.toArray := by
            intro j u hu
            have hj : j < te.size := by
              have := (Array.getElem?_eq_some_iff.1 hu).1; simpa [c3] using this
            have := c4 j hj
            rw [addr_add, addr_add] at this
            unfold memOf
            rw [this]; simpa using hu
          cases hag : te.isAgg with
          | true =>
            refine ⟨.agg ds, ⟨.agg cs'.toArray, ?_, by simpa [Value.cells] using c3, hM⟩, q2, fun _ => rfl, fun h => by simp at h⟩
            simp only [Rep]; exact ⟨_, rfl, by simpa using q1⟩
          | false =>
            -- one cell
            obtain ⟨i2, d2, _, hd2, _, hk2, _, _⟩ := tyOf_spec (hC _ _ hte)
            have h1 : te.size = 1 ∧ ∃ d v, ds = [d] ∧ d.cells = [d] ∧ cs' = [v] ∧ v.cells = #[v] := by
              cases f with
              | zero => cases ht
              | succ f =>
                unfold flatT at ht; unfold rowedT at hw2; unfold Sh at q2
                rw [hte] at ht hw2 q2; simp only [] at ht hw2 q2
                cases d2 <;> simp only [tkOf] at hk2 <;> rw [hk2] at ht hw2 q2 <;> simp only [] at ht hw2 q2 <;> (try (cases ht; done))
                · obtain ⟨b', rfl⟩ := q2
                  simp only [zB, Rep] at q1
                  obtain ⟨v, r, rfl, rfl, rfl⟩ := q1
                  exact ⟨by simpa using hw2, _, _, rfl, rfl, rfl, rfl⟩
                · obtain ⟨z, rfl, _⟩ := q2
                  simp only [zB, Rep] at q1
                  obtain ⟨v, r, rfl, rfl, rfl⟩ := q1
                  exact ⟨by simpa using hw2, _, _, rfl, rfl, rfl, rfl⟩
                · obtain ⟨z, rfl, _⟩ := q2
                  simp only [zB, Rep] at q1
                  obtain ⟨v, r, rfl, rfl, rfl⟩ := q1
                  exact ⟨by simpa using hw2, _, _, rfl, rfl, rfl, rfl⟩
                · simp [Ty.isAgg, hk2] at hag
                · simp [Ty.isAgg, hk2] at hag
            obtain ⟨hsz, dd, v, rfl, hdc, rfl, hvc⟩ := h1
            simp only [zB] at q1
            obtain ⟨v', r, e1, q1, rfl⟩ := q1
            cases e1
            refine ⟨dd, ⟨v, q1, by rw [hvc, hsz]; rfl, by rw [hvc]; exact hM⟩, by rw [hdc]; exact q2, fun h => by simp at h, fun _ => hdc⟩)
        refine ⟨[.sl false ((List.range len).map G) te.size none], ?_, .inr ⟨_, te, hte, rfl, by simp; omega, fun d hd' => ?_⟩⟩
        · simp only [zB, Rep]
          refine ⟨_, [], rfl, ⟨by simp, fun _ => ⟨b, o, cap, by simp, by simpa using hl, hm, by simp, RepE.ofGet fun i d hd' => ?_⟩⟩, rfl⟩
          rw [List.getElem?_map] at hd'
          have hi' : i < len := by
            rcases Nat.lt_or_ge i len with h | h
            · exact h
            · rw [List.getElem?_eq_none (by simpa using h)] at hd'; cases hd'
          rw [List.getElem?_range hi'] at hd'; cases hd'
          exact (hG i hi').1
        · obtain ⟨i, hi', rfl⟩ := List.mem_map.1 hd'
          exact (hG i (by simpa using hi')).2

/-- An argument. -/
theorem plain_arg {P : Program} {r : Reach} {base : Nat} {t : TypeId} {v : Value} (h : Value.okWide P w r base t v) : plainCells v.cells.toList := by
  have key : ∀ u x, Cell.okWide P w r base u x → ∀ a l c, x = .slice (some a) l c → a.spot = none := by
    rintro u x hx a l c rfl
    unfold Cell.okWide at hx
    split at hx <;> try (rename_i h1 h2; cases h2; done)
    unfold Cell.ok at hx
    split at hx <;> try (rename_i h1 h2; cases h2; done)
    · rename_i h1 h2
      cases h2
      exact hx.2.2.2.1
    · cases hx
  unfold Value.okWide at h
  split at h
  · obtain ⟨cs, rfl, _, ts, _, _, hc⟩ := h
    intro x hx
    obtain ⟨i, hi⟩ := List.mem_iff_getElem?.1 hx
    obtain ⟨u, _, hu⟩ := hc i x (by simpa [Value.cells] using hi)
    exact key u x hu
  · obtain ⟨cs, rfl, _, ts, _, _, hc⟩ := h
    intro x hx
    obtain ⟨i, hi⟩ := List.mem_iff_getElem?.1 hx
    obtain ⟨u, _, hu⟩ := hc i x (by simpa [Value.cells] using hi)
    exact key u x hu
  · intro x hx a l c e
    have hv : x = v ∨ ∃ cs, v = .agg cs := by
      cases v <;> first | exact .inr ⟨_, rfl⟩ | (left; simpa [Value.cells] using hx)
    rcases hv with rfl | ⟨cs, rfl⟩
    · exact key t x h a l c e
    · exfalso
      unfold Cell.okWide at h
      split at h <;> try (rename_i h1 h2; cases h2; done)
      unfold Cell.ok at h
      split at h <;> first | (rename_i h1 h2; cases h2; done) | cases h
end
end Go.VS

/-
  VS, part P2: what a law's call leaves, as its row says it. (A text of this claim's own; nothing of it is trusted.)
-/
namespace Go.VS
open Go Go.RowKit Go.ChangeShapes Go.WideShapes

section
variable {H : Type} {enc : TypeId × Value → H} {P : Program}
theorem trodAll_carry {w w' : World} {base : Nat} {sp : Nat → Bool} {held : Bool} : ∀ {ts : List TypeId} {vs : List Value} {ds : List (DataW H)} {ps : List MemPlace}, DataW.TrodAll enc P w base sp held ts vs ds ps → (∀ p ∈ ps, w.sameAt w' p) → DataW.TrodAll enc P w' base sp held ts vs ds ps
  | [], [], [], _, h, _ => h
  | _ :: _, _ :: _, _ :: _, _, ⟨p, q, ⟨n, h1⟩, h2, e⟩, hs => ⟨p, q, ⟨n, DataW.trod_carry n _ _ _ h1 (fun x hx => hs x (by rw [e]; exact List.mem_append_left _ hx))⟩, trodAll_carry h2 (fun x hx => hs x (by rw [e]; exact List.mem_append_right _ hx)), e⟩
theorem sameAt_of {w w' : World} (h : ∀ b, b < w.heap.size → w'.heap[b]? = w.heap[b]?) : ∀ p : MemPlace, p.block < w.heap.size → w.sameAt w' p
  | .cell b off, hp => by
    show w'.cell? ⟨b, off, none⟩ = w.cell? ⟨b, off, none⟩
    unfold World.cell?
    rw [h b hp]
  | .map b, hp => h b hp
theorem post_same {f : Func} {s : ChangeSpec} {apart fresh handsOn again : Bool} {W W' : World} {args : Array Value} {v : Value} {ds gs : List (DataW H)} {before pa pv : List MemPlace}
    (hW : DataW.Whole enc P f.params.toList s.vars apart W args.toList ds gs before)
    (hres : ∀ (b : Nat) (sp : Nat → Bool) (hd : Bool), DataW.TrodAll enc P W' b sp hd f.resultTypes.toList (v.resultList f.resultTypes.size) (s.fn H (ds ++ gs)).results [])
    (hargs : ∀ sp : Nat → Bool, (∀ p ∈ before, sp p.block = true) → DataW.TrodAll enc P W' 0 sp true f.params.toList args.toList (s.fn H (ds ++ gs)).args pa)
    (hvars : ∀ sp : Nat → Bool, (∀ p ∈ before, sp p.block = true) → DataW.TrodVars enc P W' sp s.vars (s.fn H (ds ++ gs)).vars pv)
    (hps : before = pa ++ pv) (hk : W.keptBut W' (· ∈ before)) (hfz : ∀ p ∈ before, ∀ b off, p = .cell b off → W'.frozen? ⟨b, off, none⟩ = W.frozen? ⟨b, off, none⟩)
    (hok : ∀ (j : Nat) (t : TypeId) (r : Value), f.resultTypes[j]? = some t → (v.resultList f.resultTypes.size)[j]? = some r → Value.okWide P W' .any 0 t r) :
    s.post enc P f apart fresh handsOn again W args v W' := by
  have hold : ∀ p ∈ before, (fun b => decide (b < W.heap.size)) p.block = true := fun p hp => by simpa using hW.lt p hp
  refine ⟨ds, gs, before, [], pa, pv, hW, hres _ _ _, hargs _ hold, hvars _ hold, World.keptBut_mono (fun p hp => ⟨hp, ?_⟩) hk, fun _ => ?_⟩
  · rw [hps, List.mem_append] at hp
    exact Or.inr hp
  · obtain ⟨_, _, _, _, _, hz, hn⟩ := hW
    refine ⟨hok, _, _, ([] ++ pa) ++ pv, ⟨[] ++ pa, pv, trodAll_append (hargs _ (fun _ _ => rfl)) (hres _ _ _), hvars _ (fun _ _ => rfl), rfl, ?_, ?_⟩, ?_⟩
    · intro b off hp
      have hp' : MemPlace.cell b off ∈ before := by rw [hps]; simpa using hp
      rw [hfz _ hp' b off rfl]
      exact hz b off hp'
    · intro ha
      have := hn ha
      rw [hps] at this
      simpa using this
    · intro p hp _
      rw [hps]
      simpa using hp

theorem law_post {C : Cfg} (hC : CfgOK C) (hX : ExtOK C) (hl : laidOutB C.P = true) (hm : mapsRowed C.P = true) (hz : ∀ t e, t < C.P.types.size → C.P.underlying t = some (.slice e) → 0 < C.P.cellsOf e)
    {K : FuncId} {dsD : List D} (hpure : (lim C).pure K dsD = some (B true)) {W : World} {args : Array Value} (hrep : zB (memOf W) noLoc dsD args.toList) (hG : y6 C (memOf W))
    {f : Func} {s : ChangeSpec} {apart fresh handsOn again : Bool} {ds gs : List (DataW H)} {before : List MemPlace}
    (hW : DataW.Whole enc C.P f.params.toList s.vars apart W args.toList ds gs before) (hv : s.vars = [])
    (hfn : s.fn H ds = { results := [.lit (.bool true)], args := ds }) {tb : TypeId} (hres : f.resultTypes = #[tb]) (htb : C.P.underlying tb = some .bool)
    (hts : ∀ t ∈ f.params.toList, t < C.P.types.size) :
    Calls C.P K args W fun e W' => ∃ v, e = .returned v ∧ s.post enc C.P f apart fresh handsOn again W args v W' := by
  refine (lim_sound hC hX hpure (memOf W) W args (memOf_ok W) hG hrep).mono ?_
  rintro e W' ⟨v, M', rfl, k1, k2, k3, k4, k5, k6, k7, k8, k9⟩
  simp only [Rep] at k3; subst k3
  have hW' := hW
  obtain ⟨p, q, hA, hVars, rfl, hnf, hnd⟩ := hW'
  rw [hv] at hVars
  obtain ⟨rfl, rfl⟩ : gs = [] ∧ q = [] := by
    cases gs with
    | nil => exact ⟨rfl, hVars⟩
    | cons g gs => cases hVars
  have hlt := hW.lt
  refine ⟨_, rfl, post_same (pa := p) (pv := []) hW ?_ ?_ ?_ rfl ?_ ?_ ?_⟩
  · intro b sp hd
    rw [List.append_nil, hfn, hres]
    refine ⟨[], [], ⟨1, ?_⟩, rfl, rfl⟩
    simp [DataW.trod, htb, Value.cells]
  · intro sp hsp
    rw [List.append_nil, hfn]
    refine trodAll_carry (DataW.TrodAll.respare (T := (· < C.P.types.size)) (kids_rows hl hm) hz hts hA (fun p hp => hsp p (by simpa using hp))) (fun p hp => sameAt_of k8 p (hlt p (by simpa using hp)))
  · intro sp hsp
    rw [List.append_nil, hfn, hv]; rfl
  · refine ⟨k4.1, k6, fun i hi => ?_⟩
    rw [k8 i hi]
    cases hh : W.heap[i]? with
    | none => trivial
    | some o => cases o <;> simp
  · rintro _ hp b off rfl
    unfold World.frozen?
    rw [k8 b (hlt _ hp)]
  · intro j t r h1 h2
    rw [hres] at h1 h2
    cases j with
    | zero =>
      simp at h1; subst h1
      simp [Value.resultList] at h2; subst h2
      simp [Value.okWide, htb, Cell.okWide, Cell.ok]
    | succ j => simp at h1
end
end Go.VS

/-
  The seat's program: its tables are right; what its arguments stand for. (Printed by go/oq.py, a program of this claim's own; nothing of it is trusted.)
-/
namespace Go.VS
open Go Go.Proofs Go.RowKit Go.ChangeShapes Go.WideShapes
theorem cfgOK : CfgOK cfg where
  ty := fun _ _ h => tyTab_ok.find h
  fn := fun _ _ h => fnTab_ok.find h
  enter := fun _ _ h => enTab_ok.find h
  mixed := by kernel_rfl
  eqok := fun t h => by
    have h1 : (eqTab.find t).isSome = true := h
    cases hf : eqTab.find t with
    | none => rw [hf] at h1; cases h1
    | some u =>
      have := eqTab_ok.find hf
      unfold eqB at this
      simp only [Bool.and_eq_true, Bool.not_eq_true'] at this
      refine ⟨this.1.1, this.1.2, fun fs hfs f hm => ?_⟩
      have h2 := this.2
      have hfs' : Try.prog.underlying t = some (.struct fs) := hfs
      rw [hfs'] at h2
      simp only [List.all_eq_true, bne_iff_ne] at h2
      exact h2 f hm
theorem extOK : ExtOK cfg where
  pure := fun K g args d h => by rw [cfg_ext] at h; cases h
  inl := fun K g args objs nxt d objs' nxt' h => by rw [cfg_xinl] at h; cases h
theorem globOK {M : Mem} : y6 cfg M := fun g d h => by cases h
set_option maxRecDepth 100000
theorem laid_out : laidOutB Try.prog = true := by kernel_rfl
theorem maps_rowed : mapsRowed Try.prog = true := by kernel_rfl
theorem sl_full : ∀ t e, t < Try.prog.types.size → Try.prog.underlying t = some (.slice e) → 0 < Try.prog.cellsOf e := slices_full_of Try.prog (by kernel_rfl)
theorem i64_min : IntKind.i64.min = -9223372036854775808 := by rfl
theorem i64_max : IntKind.i64.max = 9223372036854775807 := by rfl
def R64 (n : Int) : Prop := -9223372036854775808 ≤ n ∧ n ≤ 9223372036854775807
section
variable {H : Type} {enc : TypeId × Value → H} {w : World} {base base' : Nat} {sp : Nat → Bool} {held : Bool} {t : TypeId} {v : Value} {d : DataW H} {p : List MemPlace} {r : Reach}
theorem arg_rep (h : DataW.Trod enc Try.prog w base sp held t v d p) (hv : Value.okWide Try.prog w r base' t v) (ht : topT cfg 8 t = true) (hr : rowedT cfg 8 t = true) :
    ∃ ds, zB (memOf w) noLoc ds v.cells.toList ∧ Sh cfg 8 t ds := by
  obtain ⟨n, hn⟩ := h
  exact trod_rep (C := cfg) (fun t ty h => tyTab_ok.find h) 8 n t _ _ hn ht hr (.inl (plain_arg hv))
theorem repL_one {M : Mem} {m : Loc} {d : D} {cs : List Value} (h : zB M m [d] cs) : ∃ v, cs = [v] ∧ Rep M m d v := by
  simp only [zB] at h
  obtain ⟨v, r, h1, h2, rfl⟩ := h
  exact ⟨v, h1, h2⟩
theorem one_cell {x u : Value} (h : x.cells.toList = [u]) (hp : ∀ cs, x ≠ .agg cs) : x = u := by
  cases x <;> simp [Value.cells] at h <;> first | exact h | exact absurd rfl (hp _)
theorem ok_notAgg (hv : Value.okWide Try.prog w r base' t v) (hs : ∀ fs, Try.prog.underlying t ≠ some (.struct fs)) (ha : ∀ n e, Try.prog.underlying t ≠ some (.array n e)) : ∀ cs, v ≠ .agg cs := by
  rintro cs rfl
  unfold Value.okWide at hv
  split at hv
  · rename_i h; exact hs _ h
  · rename_i h; exact ha _ _ h
  · unfold Cell.okWide at hv
    split at hv <;> try (rename_i h1 h2; cases h2; done)
    unfold Cell.ok at hv
    split at hv <;> first | (rename_i h1 h2; cases h2; done) | cases hv
theorem agg_of (hv : Value.okWide Try.prog w r base' t v) (hs : (∃ fs, Try.prog.underlying t = some (.struct fs)) ∨ (∃ n e, Try.prog.underlying t = some (.array n e))) : ∃ cs, v = .agg cs := by
  unfold Value.okWide at hv
  rcases hs with ⟨fs, hs⟩ | ⟨n, e, hs⟩ <;> rw [hs] at hv <;> simp only [] at hv <;> obtain ⟨cs, rfl, _⟩ := hv <;> exact ⟨cs, rfl⟩
end
theorem sh3 {f : Nat} {ds : List D} (h : Sh cfg (f + 1) 3 ds) : ∃ x : Int, ds = [I x] ∧ R64 x := by
  rw [Sh, cfg_ty, cty3] at h
  simp only [ty3] at h
  obtain ⟨n, h1, h2, h3⟩ := h
  rw [i64_min] at h2
  rw [i64_max] at h3
  exact ⟨n, h1, h2, h3⟩
theorem sh24 {f : Nat} {ds : List D} (h : Sh cfg (f + 2) 24 ds) : ∃ x : S_Span, ds = [I x.lo, I x.hi] ∧ True := by
  rw [Sh, cfg_ty, cty24] at h
  simp only [ty24] at h
  obtain ⟨hl, hf⟩ := h
  obtain ⟨t0, q0, z0⟩ := hf (3, 0) (by simp)
  obtain rfl : t0 = ty3 := (Option.some.inj (cty3.symm.trans q0)).symm
  obtain ⟨x0, e0, r0⟩ := sh3 (f := f + 0) z0
  obtain ⟨t1, q1, z1⟩ := hf (3, 1) (by simp)
  obtain rfl : t1 = ty3 := (Option.some.inj (cty3.symm.trans q1)).symm
  obtain ⟨x1, e1, r1⟩ := sh3 (f := f + 0) z1
  rcases ds with _ | ⟨c0, _ | ⟨c1, _ | ⟨y, r⟩⟩⟩
  all_goals simp at hl
  simp [ty3] at e0
  simp [ty3] at e1
  exact ⟨⟨x0, x1⟩, by simp [*], trivial⟩
theorem sh70 {f : Nat} {ds : List D} (h : Sh cfg (f + 3) 70 ds) : ∃ x : S_Item, ds = [I x.now.lo, I x.now.hi, I x.cost, I x.error] ∧ True := by
  rw [Sh, cfg_ty, cty70] at h
  simp only [ty70] at h
  obtain ⟨hl, hf⟩ := h
  obtain ⟨t0, q0, z0⟩ := hf (24, 0) (by simp)
  obtain rfl : t0 = ty24 := (Option.some.inj (cty24.symm.trans q0)).symm
  obtain ⟨x0, e0, r0⟩ := sh24 (f := f + 0) z0
  obtain ⟨t1, q1, z1⟩ := hf (3, 2) (by simp)
  obtain rfl : t1 = ty3 := (Option.some.inj (cty3.symm.trans q1)).symm
  obtain ⟨x1, e1, r1⟩ := sh3 (f := f + 1) z1
  obtain ⟨t2, q2, z2⟩ := hf (3, 3) (by simp)
  obtain rfl : t2 = ty3 := (Option.some.inj (cty3.symm.trans q2)).symm
  obtain ⟨x2, e2, r2⟩ := sh3 (f := f + 1) z2
  rcases ds with _ | ⟨c0, _ | ⟨c1, _ | ⟨c2, _ | ⟨c3, _ | ⟨y, r⟩⟩⟩⟩⟩
  all_goals simp at hl
  simp [ty24] at e0
  simp [ty3] at e1
  simp [ty3] at e2
  exact ⟨⟨x0, x1, x2⟩, by simp [*], trivial⟩
theorem sh22 {f : Nat} {ds : List D} (h : Sh cfg (f + 4) 22 ds) : ∃ x : GS S_Item, ds = [.sl x.nl (x.l.map S_Item.D) (zsl x.nl 4) none] ∧ x.l.length ≤ 9223372036854775807 := by
  rw [Sh, cfg_ty, cty22] at h
  simp only [ty22] at h
  rcases h with h | ⟨els, te, h1, h2, h3, h4⟩
  · exact ⟨GS.nil, h, by simp [GS.nil]⟩
  · obtain rfl : te = ty70 := (Option.some.inj (cty70.symm.trans h1)).symm
    have key : ∀ els : List D, (∀ d ∈ els, Sh cfg (f + 3) 70 d.cells ∧ (ty70.isAgg = true → d = .agg d.cells) ∧ (ty70.isAgg = false → d.cells = [d])) → ∃ l : List S_Item, els = l.map S_Item.D := by
      intro els
      induction els with
      | nil => intro _; exact ⟨[], rfl⟩
      | cons d els ih =>
        intro hd
        obtain ⟨l, hl⟩ := ih fun d' h' => hd d' (List.mem_cons_of_mem _ h')
        obtain ⟨q1, q2, q3⟩ := hd d (by simp)
        obtain ⟨a, e, _⟩ := sh70 (f := f + 0) q1
        have hx : d = S_Item.D a := by rw [q2 rfl, e]; rfl
        exact ⟨a :: l, by rw [List.map_cons, ← hx, ← hl]⟩
    obtain ⟨l, rfl⟩ := key els h4
    refine ⟨GS.some l, h2, ?_⟩
    simp only [List.length_map, maxLen] at h3
    simp only [GS.some]
    omega
theorem sh26 {f : Nat} {ds : List D} (h : Sh cfg (f + 5) 26 ds) : ∃ x : S_Estate, ds = [.sl x.items.nl (x.items.l.map S_Item.D) (zsl x.items.nl 4) none, I x.whole.lo, I x.whole.hi] ∧ x.items.l.length ≤ 9223372036854775807 := by
  rw [Sh, cfg_ty, cty26] at h
  simp only [ty26] at h
  obtain ⟨hl, hf⟩ := h
  obtain ⟨t0, q0, z0⟩ := hf (22, 0) (by simp)
  obtain rfl : t0 = ty22 := (Option.some.inj (cty22.symm.trans q0)).symm
  obtain ⟨x0, e0, r0⟩ := sh22 (f := f + 0) z0
  obtain ⟨t1, q1, z1⟩ := hf (24, 1) (by simp)
  obtain rfl : t1 = ty24 := (Option.some.inj (cty24.symm.trans q1)).symm
  obtain ⟨x1, e1, r1⟩ := sh24 (f := f + 2) z1
  rcases ds with _ | ⟨c0, _ | ⟨c1, _ | ⟨c2, _ | ⟨y, r⟩⟩⟩⟩
  all_goals simp at hl
  simp [ty22] at e0
  simp [ty24] at e1
  exact ⟨⟨x0, x1⟩, by simp [*], r0⟩
theorem sh37 {f : Nat} {ds : List D} (h : Sh cfg (f + 2) 37 ds) : ∃ x : GS Int, ds = [.sl x.nl (x.l.map I) (zsl x.nl 1) none] ∧ x.l.length ≤ 9223372036854775807 := by
  rw [Sh, cfg_ty, cty37] at h
  simp only [ty37] at h
  rcases h with h | ⟨els, te, h1, h2, h3, h4⟩
  · exact ⟨GS.nil, h, by simp [GS.nil]⟩
  · obtain rfl : te = ty3 := (Option.some.inj (cty3.symm.trans h1)).symm
    have key : ∀ els : List D, (∀ d ∈ els, Sh cfg (f + 1) 3 d.cells ∧ (ty3.isAgg = true → d = .agg d.cells) ∧ (ty3.isAgg = false → d.cells = [d])) → ∃ l : List Int, els = l.map I := by
      intro els
      induction els with
      | nil => intro _; exact ⟨[], rfl⟩
      | cons d els ih =>
        intro hd
        obtain ⟨l, hl⟩ := ih fun d' h' => hd d' (List.mem_cons_of_mem _ h')
        obtain ⟨q1, q2, q3⟩ := hd d (by simp)
        obtain ⟨a, e, _⟩ := sh3 (f := f + 0) q1
        have hx : d = I a := by have := (q3 rfl).symm.trans e; simpa using this
        exact ⟨a :: l, by rw [List.map_cons, ← hx, ← hl]⟩
    obtain ⟨l, rfl⟩ := key els h4
    refine ⟨GS.some l, h2, ?_⟩
    simp only [List.length_map, maxLen] at h3
    simp only [GS.some]
    omega
theorem arg3 {H : Type} {enc : TypeId × Value → H} {w : World} {base base' : Nat} {sp : Nat → Bool} {held : Bool} {v : Value} {d : DataW H} {p : List MemPlace} {r : Reach} (h : DataW.Trod enc Try.prog w base sp held 3 v d p) (hv : Value.okWide Try.prog w r base' 3 v) : ∃ x : Int, Rep (memOf w) noLoc (I x) v ∧ R64 x := by
  obtain ⟨ds, h1, h2⟩ := arg_rep h hv (by kernel_rfl) (by kernel_rfl)
  obtain ⟨x, rfl, hx⟩ := sh3 (f := 7) h2
  obtain ⟨u, e, hu⟩ := repL_one h1
  exact ⟨x, by rw [one_cell e (ok_notAgg hv (by rw [Try.underlying3]; simp) (by rw [Try.underlying3]; simp))]; exact hu, hx⟩
theorem arg26 {H : Type} {enc : TypeId × Value → H} {w : World} {base base' : Nat} {sp : Nat → Bool} {held : Bool} {v : Value} {d : DataW H} {p : List MemPlace} {r : Reach} (h : DataW.Trod enc Try.prog w base sp held 26 v d p) (hv : Value.okWide Try.prog w r base' 26 v) : ∃ x : S_Estate, Rep (memOf w) noLoc (S_Estate.D x) v ∧ x.items.l.length ≤ 9223372036854775807 := by
  obtain ⟨ds, h1, h2⟩ := arg_rep h hv (by kernel_rfl) (by kernel_rfl)
  obtain ⟨x, rfl, hx⟩ := sh26 (f := 3) h2
  obtain ⟨cs, rfl⟩ := agg_of hv (.inl ⟨_, Try.underlying26⟩)
  refine ⟨x, ?_, hx⟩
  simp only [Rep, S_Estate.D]
  exact ⟨cs, rfl, by simpa [Value.cells] using h1⟩
theorem arg37 {H : Type} {enc : TypeId × Value → H} {w : World} {base base' : Nat} {sp : Nat → Bool} {held : Bool} {v : Value} {d : DataW H} {p : List MemPlace} {r : Reach} (h : DataW.Trod enc Try.prog w base sp held 37 v d p) (hv : Value.okWide Try.prog w r base' 37 v) : ∃ x : GS Int, Rep (memOf w) noLoc (GS.D I 1 x) v ∧ x.l.length ≤ 9223372036854775807 := by
  obtain ⟨ds, h1, h2⟩ := arg_rep h hv (by kernel_rfl) (by kernel_rfl)
  obtain ⟨x, rfl, hx⟩ := sh37 (f := 6) h2
  obtain ⟨u, e, hu⟩ := repL_one h1
  exact ⟨x, by rw [one_cell e (ok_notAgg hv (by rw [Try.underlying37]; simp) (by rw [Try.underlying37]; simp))]; exact hu, hx⟩
end Go.VS

/-
  Orders: OrdersCheapest answers true. (A text of this claim's own; nothing of it is trusted.)
-/
namespace Go.VS
open Go Go.Proofs
set_option maxHeartbeats 0
theorem cost_l {e : S_Estate} {a b : GS Int} (h : a.l = b.l) : zv e a = zv e b := by
  unfold zv
  rw [h]
theorem costF_eq {e : S_Estate} (h : V e) {items : GS Int} (hL : items.l.length ≤ 9223372036854775807) (hi : inc (-1) (e.items.l.length : Int) items.l) : zt e items = (zv e items, 0) := by
  unfold zt
  rw [right_of hL h hi]
  rfl
theorem cheapest_true (e : S_Estate) (items : GS Int) (low high : Int) (hL : items.l.length ≤ 9223372036854775807) : l_OrdersCheapest e items low high = true := by
  unfold l_OrdersCheapest
  cases hv : r_Valid e with
  | false => rfl
  | true =>
    have h := valid_iff.1 hv
    cases hr : r_Right e items with
    | false => rfl
    | true =>
      have hi := (rright_iff hL).1 hr
      simp only [cond_true]
      by_cases c1 : low ≥ high
      · rw [decide_eq_true c1]; rfl
      rw [decide_eq_false c1]
      by_cases c2 : low < -1099511627776
      · rw [decide_eq_true c2]; rfl
      rw [decide_eq_false c2]
      by_cases c3 : high > 1099511627776
      · rw [decide_eq_true c3]; rfl
      rw [decide_eq_false c3]
      have h0 : -1099511627776 ≤ low := by omega
      have h1 : high ≤ 1099511627776 := by omega
      have hlh : low < high := by omega
      obtain ⟨q1, q2, q3⟩ := cheapF h h0 h1 hlh
      have kd := openF h hL hi h0 h1 hlh
      have kc := costF_eq h hL hi
      simp only [cond_false, q2, q3, bne_self_eq_false]
      cases hw : chpO e low high with
      | none =>
        rw [hw] at q1
        have hop : Opn e (tot (gs e items.l)) low high := by
          refine Classical.byContradiction fun hn => ?_
          obtain ⟨m, m1, m2⟩ := chosen_all hi
          have hok := (okC_eq h hi h0 h1 hlh).2 hn
          rw [← m2] at hok
          obtain ⟨w, hw'⟩ := goC_any (P := okLC e low high) (lt := ltI e) (n := e.items.l.length) (2 ^ e.items.l.length) 0 none m (by omega) (by omega) hok
          have : chpO e low high = some w := hw'
          rw [hw] at this; cases this
        rw [(kd.1 hop).2]
        have e0 : (z5 e low high).1.l = [] := q1
        simp [e0]
      | some w =>
        rw [hw] at q1
        have e0 : (z5 e low high).1.l = w := q1
        obtain ⟨w1, w2⟩ := chp_some hw
        have hib : inc (-1) (e.items.l.length : Int) (z5 e low high).1.l := by rw [e0]; exact w1
        have hLb := cheap_len (e := e) (low := low) (high := high)
        have kdb := openF (items := (z5 e low high).1) h hLb hib h0 h1 hlh
        have hnb : ¬ Opn e (tot (gs e (z5 e low high).1.l)) low high := by rw [e0]; exact (okC_eq h w1 h0 h1 hlh).1 w2
        rw [(kdb.2 hnb).2, costF_eq h hLb hib, kc]
        by_cases hop : Opn e (tot (gs e items.l)) low high
        · rw [(kd.1 hop).2]
          simp
        · rw [(kd.2 hop).2]
          obtain ⟨m, m1, m2⟩ := chosen_all hi
          have hok := (okC_eq h hi h0 h1 hlh).2 hop
          have hle := (goC_le (P := okLC e low high) (lt := ltI e) (n := e.items.l.length) (cost := fun l => zv e (GS.some l)) (fun l c => (ltI_cost l c).1) (fun l c => (ltI_cost l c).2) (2 ^ e.items.l.length) 0 none w hw).2 m (by omega) (by omega) (by rw [m2]; exact hok)
          rw [m2] at hle
          have e1 : zv e (z5 e low high).1 = zv e (GS.some w) := cost_l e0
          have e2 : zv e (GS.some items.l) = zv e items := cost_l rfl
          have : zv e (z5 e low high).1 ≤ zv e items := by rw [e1, ← e2]; exact hle
          simp [this]
theorem law_cheapest (e : S_Estate) (items : GS Int) (low high : Int) : e.items.l.length ≤ 9223372036854775807 → items.l.length ≤ 9223372036854775807 → R64 low → R64 high → (lim cfg).pure 8 [S_Estate.D e, GS.D I 1 items, I low, I high] = some (B true) := fun _ h _ _ => by
  rw [T_l_OrdersCheapest e items low high h, cheapest_true e items low high h]
end Go.VS

