/- Nothing of a statement is proved in this text alone: it is part 4 of the proof's own tools, an evaluator of the code over deep values, its soundness, and what it makes of this seat's functions. Conditions: none beyond the statement's own. -/
import Derived.Test.YtnifoeahomkdlaaGreatVsZNb3
set_option linter.unusedSimpArgs false
set_option linter.unusedVariables false
namespace Go.VS
open Go Go.Proofs
set_option maxHeartbeats 0
set_option linter.unusedSimpArgs false
set_option linter.unusedVariables false
noncomputable def rg20083 (n : Int) (e : S_Estate) (low : Int) (high : Int) : Rnd := ⟨98, 4, 30, [(11, .fn (.func 103) [] [.ptr (I n)]), (9, .lref 3 0 1 0), (8, .lref 2 0 1 0), (7, B false), (6, .sl true [] 0 none), (5, .lref 1 0 1 0), (4, .lref 0 0 1 0), (0, .fn (.func 103) [] [.ptr (I n)]), (1, .fn (.func 73) [] [.ptr (.agg [.sl e.items.nl (e.items.l.map S_Item.D) (zsl e.items.nl 4) none, I e.whole.lo, I e.whole.hi]), .ptr (I low), .ptr (I high)]), (2, .fn (.func 99) [] [.ptr (.agg [.sl e.items.nl (e.items.l.map S_Item.D) (zsl e.items.nl 4) none, I e.whole.lo, I e.whole.hi])])], [12], subC [1, 1, 1, 0, 1, 0, 0] (bodyC Tryz.f98), subC [1, 1, 1, 0, 1, 0, 1] (bodyC Tryz.f98)⟩

noncomputable def lp103_5 : Code := subC [1, 0, 0, 1, 1, 0, 0, 1, 1, 0, 1, 0, 0] (bodyC Tryz.f103)

def sd20099 (n : Int) (e : S_Estate) (low : Int) (high : Int) (q1_0 : Int) (i5 : Nat) (q5_0 : Int) (va5_0 : List Int) (va5_1 : List Int) : St := ⟨30, [(12, I ((i5 + 1 : Nat) : Int)), (24, I ((i5 + 1 : Nat) : Int)), (4, .lsl 8 0 ((va5_0 ++ [((i5 : Nat) : Int)]).length) 1 none), (23, .lsl 8 0 ((va5_0 ++ [((i5 : Nat) : Int)]).length) 1 none), (22, .lsl 7 0 1 1 (some 1)), (21, I ((i5 : Nat) : Int)), (20, .lsl 5 0 va5_0.length 1 none), (19, B true), (18, I (w64 ((BitVec.ofInt 64 ((q5_0).fdiv (2 ^ (min (((i5 : Nat) : Int)).toNat 64))) &&& BitVec.ofInt 64 1).toNat : Int))), (17, I ((q5_0).fdiv (2 ^ (min (((i5 : Nat) : Int)).toNat 64)))), (16, I ((i5 : Nat) : Int)), (15, I q5_0), (5, I ((i5 : Nat) : Int)), (14, I ((i5 : Nat) : Int)), (13, B true), (0, .yld 4), (1, .ptr (I n)), (3, I q5_0), (4, .lsl 5 0 va5_0.length 1 none), (7, I q1_0), (8, I q5_0), (11, I n), (12, I ((i5 : Nat) : Int))], [(0, ⟨[.fn (.func 73) [] [.ptr (.agg [.sl e.items.nl (e.items.l.map S_Item.D) (zsl e.items.nl 4) none, I e.whole.lo, I e.whole.hi]), .ptr (I low), .ptr (I high)]], 1, false⟩), (1, ⟨[.fn (.func 99) [] [.ptr (.agg [.sl e.items.nl (e.items.l.map S_Item.D) (zsl e.items.nl 4) none, I e.whole.lo, I e.whole.hi])]], 1, false⟩), (2, ⟨[.lsl 6 0 va5_1.length 1 none], 1, false⟩), (3, ⟨[B true], 1, false⟩), (6, ⟨va5_1.map I, 1, false⟩), (7, ⟨[I ((i5 : Nat) : Int)], 1, false⟩), (8, ⟨(va5_0 ++ [((i5 : Nat) : Int)]).map I, 1, false⟩)], 9, 5⟩

def sd20100 (n : Int) (e : S_Estate) (low : Int) (high : Int) (q1_0 : Int) (i5 : Nat) (q5_0 : Int) (va5_0 : List Int) (va5_1 : List Int) : St := ⟨30, [(12, I ((i5 + 1 : Nat) : Int)), (24, I ((i5 + 1 : Nat) : Int)), (19, B false), (18, I (w64 ((BitVec.ofInt 64 ((q5_0).fdiv (2 ^ (min (((i5 : Nat) : Int)).toNat 64))) &&& BitVec.ofInt 64 1).toNat : Int))), (17, I ((q5_0).fdiv (2 ^ (min (((i5 : Nat) : Int)).toNat 64)))), (16, I ((i5 : Nat) : Int)), (15, I q5_0), (5, I ((i5 : Nat) : Int)), (14, I ((i5 : Nat) : Int)), (13, B true), (0, .yld 4), (1, .ptr (I n)), (3, I q5_0), (4, .lsl 5 0 va5_0.length 1 none), (7, I q1_0), (8, I q5_0), (11, I n), (12, I ((i5 : Nat) : Int))], [(0, ⟨[.fn (.func 73) [] [.ptr (.agg [.sl e.items.nl (e.items.l.map S_Item.D) (zsl e.items.nl 4) none, I e.whole.lo, I e.whole.hi]), .ptr (I low), .ptr (I high)]], 1, false⟩), (1, ⟨[.fn (.func 99) [] [.ptr (.agg [.sl e.items.nl (e.items.l.map S_Item.D) (zsl e.items.nl 4) none, I e.whole.lo, I e.whole.hi])]], 1, false⟩), (2, ⟨[.lsl 6 0 va5_1.length 1 none], 1, false⟩), (3, ⟨[B true], 1, false⟩), (5, ⟨va5_0.map I, 1, false⟩), (6, ⟨va5_1.map I, 1, false⟩)], 7, 5⟩

def sd20101 (n : Int) (e : S_Estate) (low : Int) (high : Int) (q1_0 : Int) (i5 : Nat) (q5_0 : Int) (va1_0 : List Int) : St := ⟨30, [(12, I ((i5 + 1 : Nat) : Int)), (24, I ((i5 + 1 : Nat) : Int)), (4, .lsl 7 0 1 1 none), (23, .lsl 7 0 1 1 none), (22, .lsl 6 0 1 1 (some 1)), (21, I ((i5 : Nat) : Int)), (20, .sl true [] 0 none), (19, B true), (18, I (w64 ((BitVec.ofInt 64 ((q5_0).fdiv (2 ^ (min (((i5 : Nat) : Int)).toNat 64))) &&& BitVec.ofInt 64 1).toNat : Int))), (17, I ((q5_0).fdiv (2 ^ (min (((i5 : Nat) : Int)).toNat 64)))), (16, I ((i5 : Nat) : Int)), (15, I q5_0), (5, I ((i5 : Nat) : Int)), (14, I ((i5 : Nat) : Int)), (13, B true), (0, .yld 4), (1, .ptr (I n)), (3, I q5_0), (4, .sl true [] 0 none), (7, I q1_0), (8, I q5_0), (11, I n), (12, I ((i5 : Nat) : Int))], [(0, ⟨[.fn (.func 73) [] [.ptr (.agg [.sl e.items.nl (e.items.l.map S_Item.D) (zsl e.items.nl 4) none, I e.whole.lo, I e.whole.hi]), .ptr (I low), .ptr (I high)]], 1, false⟩), (1, ⟨[.fn (.func 99) [] [.ptr (.agg [.sl e.items.nl (e.items.l.map S_Item.D) (zsl e.items.nl 4) none, I e.whole.lo, I e.whole.hi])]], 1, false⟩), (2, ⟨[.lsl 5 0 va1_0.length 1 none], 1, false⟩), (3, ⟨[B true], 1, false⟩), (5, ⟨va1_0.map I, 1, false⟩), (6, ⟨[I ((i5 : Nat) : Int)], 1, false⟩), (7, ⟨[I ((i5 : Nat) : Int)], 1, false⟩)], 8, 5⟩

def sd20102 (n : Int) (e : S_Estate) (low : Int) (high : Int) (q1_0 : Int) (i5 : Nat) (q5_0 : Int) (va1_0 : List Int) : St := ⟨30, [(12, I ((i5 + 1 : Nat) : Int)), (24, I ((i5 + 1 : Nat) : Int)), (19, B false), (18, I (w64 ((BitVec.ofInt 64 ((q5_0).fdiv (2 ^ (min (((i5 : Nat) : Int)).toNat 64))) &&& BitVec.ofInt 64 1).toNat : Int))), (17, I ((q5_0).fdiv (2 ^ (min (((i5 : Nat) : Int)).toNat 64)))), (16, I ((i5 : Nat) : Int)), (15, I q5_0), (5, I ((i5 : Nat) : Int)), (14, I ((i5 : Nat) : Int)), (13, B true), (0, .yld 4), (1, .ptr (I n)), (3, I q5_0), (4, .sl true [] 0 none), (7, I q1_0), (8, I q5_0), (11, I n), (12, I ((i5 : Nat) : Int))], [(0, ⟨[.fn (.func 73) [] [.ptr (.agg [.sl e.items.nl (e.items.l.map S_Item.D) (zsl e.items.nl 4) none, I e.whole.lo, I e.whole.hi]), .ptr (I low), .ptr (I high)]], 1, false⟩), (1, ⟨[.fn (.func 99) [] [.ptr (.agg [.sl e.items.nl (e.items.l.map S_Item.D) (zsl e.items.nl 4) none, I e.whole.lo, I e.whole.hi])]], 1, false⟩), (2, ⟨[.lsl 5 0 va1_0.length 1 none], 1, false⟩), (3, ⟨[B true], 1, false⟩), (5, ⟨va1_0.map I, 1, false⟩)], 6, 5⟩

inductive LR_orders_lists_1_5 where
  | x0 (i5 : Nat) (va5_0 : List Int) (va5_1 : List Int)
  | x1 (i5 : Nat)
instance : Inhabited LR_orders_lists_1_5 := ⟨.x0 default default default⟩
def zW (va1_0 : List Int) (q5_0 : Int) : Nat → Nat → (List Int) → (List Int) → LR_orders_lists_1_5
  | 0, i5, va5_0, va5_1 => .x0 i5 va5_0 va5_1
  | rest5 + 1, i5, va5_0, va5_1 =>
    bif ((w64 ((BitVec.ofInt 64 ((q5_0).fdiv (2 ^ (min (((i5 : Nat) : Int)).toNat 64))) &&& BitVec.ofInt 64 1).toNat : Int)) == 1) then
      zW va1_0 q5_0 rest5 (i5 + 1) (va5_0 ++ [((i5 : Nat) : Int)]) va5_1
    else
      zW va1_0 q5_0 rest5 (i5 + 1) va5_0 va5_1
def zT (va1_0 : List Int) (q5_0 : Int) : Nat → Nat → LR_orders_lists_1_5
  | 0, i5 => .x1 i5
  | rest5 + 1, i5 =>
    bif ((w64 ((BitVec.ofInt 64 ((q5_0).fdiv (2 ^ (min (((i5 : Nat) : Int)).toNat 64))) &&& BitVec.ofInt 64 1).toNat : Int)) == 1) then
      zW va1_0 q5_0 rest5 (i5 + 1) [((i5 : Nat) : Int)] va1_0
    else
      zT va1_0 q5_0 rest5 (i5 + 1)
def lr_orders_lists_1_5 (n : Int) (e : S_Estate) (low : Int) (high : Int) (q1_0 : Int) (va1_0 : List Int) (q5_0 : Int) : LR_orders_lists_1_5 → Exit × St × Option Code
  | .x0 i5 va5_0 va5_1 => ((.exit 2), ⟨30, [(13, B false), (0, .yld 4), (1, .ptr (I n)), (3, I q5_0), (4, .lsl 5 0 va5_0.length 1 none), (7, I q1_0), (8, I q5_0), (11, I n), (12, I ((i5 : Nat) : Int))], [(0, ⟨[.fn (.func 73) [] [.ptr (.agg [.sl e.items.nl (e.items.l.map S_Item.D) (zsl e.items.nl 4) none, I e.whole.lo, I e.whole.hi]), .ptr (I low), .ptr (I high)]], 1, false⟩), (1, ⟨[.fn (.func 99) [] [.ptr (.agg [.sl e.items.nl (e.items.l.map S_Item.D) (zsl e.items.nl 4) none, I e.whole.lo, I e.whole.hi])]], 1, false⟩), (2, ⟨[.lsl 6 0 va5_1.length 1 none], 1, false⟩), (3, ⟨[B true], 1, false⟩), (5, ⟨va5_0.map I, 1, false⟩), (6, ⟨va5_1.map I, 1, false⟩)], 7, 5⟩, none)
  | .x1 i5 => ((.exit 2), ⟨30, [(13, B false), (0, .yld 4), (1, .ptr (I n)), (3, I q5_0), (4, .sl true [] 0 none), (7, I q1_0), (8, I q5_0), (11, I n), (12, I ((i5 : Nat) : Int))], [(0, ⟨[.fn (.func 73) [] [.ptr (.agg [.sl e.items.nl (e.items.l.map S_Item.D) (zsl e.items.nl 4) none, I e.whole.lo, I e.whole.hi]), .ptr (I low), .ptr (I high)]], 1, false⟩), (1, ⟨[.fn (.func 99) [] [.ptr (.agg [.sl e.items.nl (e.items.l.map S_Item.D) (zsl e.items.nl 4) none, I e.whole.lo, I e.whole.hi])]], 1, false⟩), (2, ⟨[.lsl 5 0 va1_0.length 1 none], 1, false⟩), (3, ⟨[B true], 1, false⟩), (5, ⟨va1_0.map I, 1, false⟩)], 6, 5⟩, none)
def y6 (n : Int) (e : S_Estate) (low : Int) (high : Int) (q1_0 : Int) (va1_0 : List Int) (q5_0 : Int) : LR_orders_lists_1_5 → Prop
  | .x0 i5 va5_0 va5_1 => (∀ i ∈ va5_0, 0 ≤ i ∧ i < ((e.items.l.length : Nat) : Int)) ∧ (va5_0.length ≤ 12) ∧ (∀ i ∈ va5_1, 0 ≤ i ∧ i < ((e.items.l.length : Nat) : Int)) ∧ (va5_1.length ≤ 12) ∧ (va5_0.length ≤ i5)
  | .x1 i5 => True
theorem lp_orders_lists_1_5a (n : Int) (e : S_Estate) (low : Int) (high : Int) (q1_0 : Int) (va1_0 : List Int) (q5_0 : Int) : ∀ (rest5 : Nat) (i5 : Nat) (va5_0 : List Int) (va5_1 : List Int) (hk5 : (n - ((i5 : Nat) : Int)).toNat = rest5) (hN5 : n ≤ 9223372036854775807) (hm5_va5_0 : ∀ i ∈ va5_0, 0 ≤ i ∧ i < ((e.items.l.length : Nat) : Int)) (hz5_va5_0 : va5_0.length ≤ 12) (hm5_va5_1 : ∀ i ∈ va5_1, 0 ≤ i ∧ i < ((e.items.l.length : Nat) : Int)) (hz5_va5_1 : va5_1.length ≤ 12) (hm5_b : ∀ i ∈ va1_0, 0 ≤ i ∧ i < ((e.items.l.length : Nat) : Int)) (hz5_b : va1_0.length ≤ 12) (hn : n = ((e.items.l.length : Nat) : Int)) (hle : e.items.l.length ≤ 12) (hg5_va5_0 : va5_0.length ≤ i5) (hL5 : n ≤ 1099511627776), (lim cfg).loopY (rg20083 n e low high) 103 lp103_5 ⟨30, [(0, .yld 4), (1, .ptr (I n)), (3, I q5_0), (4, .lsl 5 0 va5_0.length 1 none), (7, I q1_0), (8, I q5_0), (11, I n), (12, I ((i5 : Nat) : Int))], [(0, ⟨[.fn (.func 73) [] [.ptr (.agg [.sl e.items.nl (e.items.l.map S_Item.D) (zsl e.items.nl 4) none, I e.whole.lo, I e.whole.hi]), .ptr (I low), .ptr (I high)]], 1, false⟩), (1, ⟨[.fn (.func 99) [] [.ptr (.agg [.sl e.items.nl (e.items.l.map S_Item.D) (zsl e.items.nl 4) none, I e.whole.lo, I e.whole.hi])]], 1, false⟩), (2, ⟨[.lsl 6 0 va5_1.length 1 none], 1, false⟩), (3, ⟨[B true], 1, false⟩), (5, ⟨va5_0.map I, 1, false⟩), (6, ⟨va5_1.map I, 1, false⟩)], 7, 5⟩ = some (lr_orders_lists_1_5 n e low high q1_0 va1_0 q5_0 (zW va1_0 q5_0 rest5 i5 va5_0 va5_1)) := by
  intro rest5
  induction rest5 with
  | zero =>
    intro i5 va5_0 va5_1 hk5 hN5 hm5_va5_0 hz5_va5_0 hm5_va5_1 hz5_va5_1 hm5_b hz5_b hn hle hg5_va5_0 hL5
    unfold zW
    exact po_lastY [.dec false] (And.intro (ct_no hk5) trivial) (by kernel_rfl)
  | succ rest5 ih =>
    intro i5 va5_0 va5_1 hk5 hN5 hm5_va5_0 hz5_va5_0 hm5_va5_1 hz5_va5_1 hm5_b hz5_b hn hle hg5_va5_0 hL5
    have hlt5 := of_decide_eq_true (ct_at hk5)
    unfold zW
    cases h23 : ((w64 ((BitVec.ofInt 64 ((q5_0).fdiv (2 ^ (min (((i5 : Nat) : Int)).toNat 64))) &&& BitVec.ofInt 64 1).toNat : Int)) == 1) with
    | true =>
      exact po_turnY' (ks := [0, 1, 3, 4, 7, 8, 11, 12]) (st' := (sd20099 n e low high q1_0 i5 q5_0 va5_0 va5_1)) [.dec true, .op (some 17) ⟨I ((q5_0).fdiv (2 ^ (min (((i5 : Nat) : Int)).toNat 64))), [], [], 7⟩, .dec true, .op (some 23) ⟨.lsl 8 0 ((va5_0 ++ [((i5 : Nat) : Int)]).length) 1 none, [(5, none), (8, some ⟨(va5_0 ++ [((i5 : Nat) : Int)]).map I, 1, false⟩)], [5, 7], 9⟩, .rw 24 (I ((i5 + 1 : Nat) : Int))] (And.intro (yb (i := i5) (by first | assumption | omega)) (And.intro (app_row (f := I) (te := ty3) (gO := zD [(0, ⟨[.fn (.func 73) [] [.ptr (.agg [.sl e.items.nl (e.items.l.map S_Item.D) (zsl e.items.nl 4) none, I e.whole.lo, I e.whole.hi]), .ptr (I low), .ptr (I high)]], 1, false⟩), (1, ⟨[.fn (.func 99) [] [.ptr (.agg [.sl e.items.nl (e.items.l.map S_Item.D) (zsl e.items.nl 4) none, I e.whole.lo, I e.whole.hi])]], 1, false⟩), (2, ⟨[.lsl 6 0 va5_1.length 1 none], 1, false⟩), (3, ⟨[B true], 1, false⟩), (5, ⟨va5_0.map I, 1, false⟩), (6, ⟨va5_1.map I, 1, false⟩), (7, ⟨[I ((i5 : Nat) : Int)], 1, false⟩)]) (nxt := 8) (o := 5) (o2 := 7) (fz := false) zU va5_0 ((i5 : Nat) : Int) (by kernel_rfl) (by kernel_rfl) rfl (by kernel_rfl) (by decide) ⟨by simp only [ty3, big] <;> (first | assumption | omega | (with_reducible exact zc) | (with_reducible exact Nat.le_trans zq (by omega)) | (with_reducible exact Nat.le_trans zo (by omega)) | (with_reducible exact Nat.le_trans zp (by omega)) | (with_reducible exact zz) | (with_reducible exact zy (by omega)) | (with_reducible exact zx (by assumption) (by omega)) | (simp only [z8] at * <;> omega) | (simp only [z7, z6, z5, GS.nil_len, GS.some_l, List.length_set, List.length_append, List.length_cons, List.length_nil] at * <;> first | with_reducible assumption | omega) | (simp only [z7, z6, z5, GS.nil_len, GS.some_l, List.length_set, List.length_append, List.length_cons, List.length_nil, z8] at * <;> first | with_reducible assumption | omega) | (simp at * <;> omega)), by simp only [big] <;> (first | assumption | omega | (with_reducible exact zc) | (with_reducible exact Nat.le_trans zq (by omega)) | (with_reducible exact Nat.le_trans zo (by omega)) | (with_reducible exact Nat.le_trans zp (by omega)) | (with_reducible exact zz) | (with_reducible exact zy (by omega)) | (with_reducible exact zx (by assumption) (by omega)) | (simp only [z8] at * <;> omega) | (simp only [z7, z6, z5, GS.nil_len, GS.some_l, List.length_set, List.length_append, List.length_cons, List.length_nil] at * <;> first | with_reducible assumption | omega) | (simp only [z7, z6, z5, GS.nil_len, GS.some_l, List.length_set, List.length_append, List.length_cons, List.length_nil, z8] at * <;> first | with_reducible assumption | omega) | (simp at * <;> omega))⟩) (And.intro h23 (And.intro (shr_op (C := cfg) (t := 3) (cst := false) (nxt := 7) (a := q5_0) (b := ((i5 : Nat) : Int)) (by first | assumption | omega)) (And.intro (ct_at hk5) trivial))))) (by kernel_rfl) (by (simp only [sd20099, go_sem, Nat.reduceAdd, Nat.reduceEqDiff, Nat.reduceLT, Nat.reduceLeDiff, bI2, zU.idsL, zU.renL, zU.snapAll, zg.idsL, zg.renL, zg.snapAll]) <;> rfl) (ih (i5 + 1) (va5_0 ++ [((i5 : Nat) : Int)]) va5_1 (by omega) hN5 (by first | assumption | omega | (with_reducible exact zc) | (with_reducible exact Nat.le_trans zq (by omega)) | (with_reducible exact Nat.le_trans zo (by omega)) | (with_reducible exact Nat.le_trans zp (by omega)) | (with_reducible exact zz) | (with_reducible exact zy (by omega)) | (with_reducible exact zx (by assumption) (by omega)) | (simp only [z8] at * <;> omega) | (simp only [z7, z6, z5, GS.nil_len, GS.some_l, List.length_set, List.length_append, List.length_cons, List.length_nil] at * <;> first | with_reducible assumption | omega) | (simp only [z7, z6, z5, GS.nil_len, GS.some_l, List.length_set, List.length_append, List.length_cons, List.length_nil, z8] at * <;> first | with_reducible assumption | omega) | (simp at * <;> omega)) (by first | assumption | omega | (with_reducible exact zc) | (with_reducible exact Nat.le_trans zq (by omega)) | (with_reducible exact Nat.le_trans zo (by omega)) | (with_reducible exact Nat.le_trans zp (by omega)) | (with_reducible exact zz) | (with_reducible exact zy (by omega)) | (with_reducible exact zx (by assumption) (by omega)) | (simp only [z8] at * <;> omega) | (simp only [z7, z6, z5, GS.nil_len, GS.some_l, List.length_set, List.length_append, List.length_cons, List.length_nil] at * <;> first | with_reducible assumption | omega) | (simp only [z7, z6, z5, GS.nil_len, GS.some_l, List.length_set, List.length_append, List.length_cons, List.length_nil, z8] at * <;> first | with_reducible assumption | omega) | (simp at * <;> omega)) (by first | assumption | omega) (by first | assumption | omega) (by first | assumption | omega) (by first | assumption | omega) (by first | assumption | omega) (by first | assumption | omega) (by first | assumption | omega | (with_reducible exact zc) | (with_reducible exact Nat.le_trans zq (by omega)) | (with_reducible exact Nat.le_trans zo (by omega)) | (with_reducible exact Nat.le_trans zp (by omega)) | (with_reducible exact zz) | (with_reducible exact zy (by omega)) | (with_reducible exact zx (by assumption) (by omega)) | (simp only [z8] at * <;> omega) | (simp only [z7, z6, z5, GS.nil_len, GS.some_l, List.length_set, List.length_append, List.length_cons, List.length_nil] at * <;> first | with_reducible assumption | omega) | (simp only [z7, z6, z5, GS.nil_len, GS.some_l, List.length_set, List.length_append, List.length_cons, List.length_nil, z8] at * <;> first | with_reducible assumption | omega) | (simp at * <;> omega)) (by first | assumption | omega)) (by kernel_rfl)
    | false =>
      exact po_turnY' (ks := [0, 1, 3, 4, 7, 8, 11, 12]) (st' := (sd20100 n e low high q1_0 i5 q5_0 va5_0 va5_1)) [.dec true, .op (some 17) ⟨I ((q5_0).fdiv (2 ^ (min (((i5 : Nat) : Int)).toNat 64))), [], [], 7⟩, .dec false, .rw 24 (I ((i5 + 1 : Nat) : Int))] (And.intro (yb (i := i5) (by first | assumption | omega)) (And.intro h23 (And.intro (shr_op (C := cfg) (t := 3) (cst := false) (nxt := 7) (a := q5_0) (b := ((i5 : Nat) : Int)) (by first | assumption | omega)) (And.intro (ct_at hk5) trivial)))) (by kernel_rfl) (by (simp only [sd20100, go_sem, Nat.reduceAdd, Nat.reduceEqDiff, Nat.reduceLT, Nat.reduceLeDiff, bI2, zU.idsL, zU.renL, zU.snapAll, zg.idsL, zg.renL, zg.snapAll]) <;> rfl) (ih (i5 + 1) va5_0 va5_1 (by omega) hN5 (by first | assumption | omega) (by first | assumption | omega) (by first | assumption | omega) (by first | assumption | omega) (by first | assumption | omega) (by first | assumption | omega) (by first | assumption | omega) (by first | assumption | omega) (by first | assumption | omega) (by first | assumption | omega)) (by kernel_rfl)
theorem ivt_orders_lists_1_5a (n : Int) (e : S_Estate) (low : Int) (high : Int) (q1_0 : Int) (va1_0 : List Int) (q5_0 : Int) : ∀ (rest5 : Nat) (i5 : Nat) (va5_0 : List Int) (va5_1 : List Int) (hk5 : (n - ((i5 : Nat) : Int)).toNat = rest5) (hN5 : n ≤ 9223372036854775807) (hm5_va5_0 : ∀ i ∈ va5_0, 0 ≤ i ∧ i < ((e.items.l.length : Nat) : Int)) (hz5_va5_0 : va5_0.length ≤ 12) (hm5_va5_1 : ∀ i ∈ va5_1, 0 ≤ i ∧ i < ((e.items.l.length : Nat) : Int)) (hz5_va5_1 : va5_1.length ≤ 12) (hm5_b : ∀ i ∈ va1_0, 0 ≤ i ∧ i < ((e.items.l.length : Nat) : Int)) (hz5_b : va1_0.length ≤ 12) (hn : n = ((e.items.l.length : Nat) : Int)) (hle : e.items.l.length ≤ 12) (hg5_va5_0 : va5_0.length ≤ i5) (hL5 : n ≤ 1099511627776), y6 n e low high q1_0 va1_0 q5_0 (zW va1_0 q5_0 rest5 i5 va5_0 va5_1) := by
  intro rest5
  induction rest5 with
  | zero =>
    intro i5 va5_0 va5_1 hk5 hN5 hm5_va5_0 hz5_va5_0 hm5_va5_1 hz5_va5_1 hm5_b hz5_b hn hle hg5_va5_0 hL5
    unfold zW
    exact ⟨hm5_va5_0, hz5_va5_0, hm5_va5_1, hz5_va5_1, hg5_va5_0⟩
  | succ rest5 ih =>
    intro i5 va5_0 va5_1 hk5 hN5 hm5_va5_0 hz5_va5_0 hm5_va5_1 hz5_va5_1 hm5_b hz5_b hn hle hg5_va5_0 hL5
    have hlt5 := of_decide_eq_true (ct_at hk5)
    unfold zW
    cases h23 : ((w64 ((BitVec.ofInt 64 ((q5_0).fdiv (2 ^ (min (((i5 : Nat) : Int)).toNat 64))) &&& BitVec.ofInt 64 1).toNat : Int)) == 1) with
    | true =>
      exact ih (i5 + 1) (va5_0 ++ [((i5 : Nat) : Int)]) va5_1 (by omega) hN5 (by first | assumption | omega | (with_reducible exact zc) | (with_reducible exact Nat.le_trans zq (by omega)) | (with_reducible exact Nat.le_trans zo (by omega)) | (with_reducible exact Nat.le_trans zp (by omega)) | (with_reducible exact zz) | (with_reducible exact zy (by omega)) | (with_reducible exact zx (by assumption) (by omega)) | (simp only [z8] at * <;> omega) | (simp only [z7, z6, z5, GS.nil_len, GS.some_l, List.length_set, List.length_append, List.length_cons, List.length_nil] at * <;> first | with_reducible assumption | omega) | (simp only [z7, z6, z5, GS.nil_len, GS.some_l, List.length_set, List.length_append, List.length_cons, List.length_nil, z8] at * <;> first | with_reducible assumption | omega) | (simp at * <;> omega)) (by first | assumption | omega | (with_reducible exact zc) | (with_reducible exact Nat.le_trans zq (by omega)) | (with_reducible exact Nat.le_trans zo (by omega)) | (with_reducible exact Nat.le_trans zp (by omega)) | (with_reducible exact zz) | (with_reducible exact zy (by omega)) | (with_reducible exact zx (by assumption) (by omega)) | (simp only [z8] at * <;> omega) | (simp only [z7, z6, z5, GS.nil_len, GS.some_l, List.length_set, List.length_append, List.length_cons, List.length_nil] at * <;> first | with_reducible assumption | omega) | (simp only [z7, z6, z5, GS.nil_len, GS.some_l, List.length_set, List.length_append, List.length_cons, List.length_nil, z8] at * <;> first | with_reducible assumption | omega) | (simp at * <;> omega)) (by first | assumption | omega) (by first | assumption | omega) (by first | assumption | omega) (by first | assumption | omega) (by first | assumption | omega) (by first | assumption | omega) (by first | assumption | omega | (with_reducible exact zc) | (with_reducible exact Nat.le_trans zq (by omega)) | (with_reducible exact Nat.le_trans zo (by omega)) | (with_reducible exact Nat.le_trans zp (by omega)) | (with_reducible exact zz) | (with_reducible exact zy (by omega)) | (with_reducible exact zx (by assumption) (by omega)) | (simp only [z8] at * <;> omega) | (simp only [z7, z6, z5, GS.nil_len, GS.some_l, List.length_set, List.length_append, List.length_cons, List.length_nil] at * <;> first | with_reducible assumption | omega) | (simp only [z7, z6, z5, GS.nil_len, GS.some_l, List.length_set, List.length_append, List.length_cons, List.length_nil, z8] at * <;> first | with_reducible assumption | omega) | (simp at * <;> omega)) (by first | assumption | omega)
    | false =>
      exact ih (i5 + 1) va5_0 va5_1 (by omega) hN5 (by first | assumption | omega) (by first | assumption | omega) (by first | assumption | omega) (by first | assumption | omega) (by first | assumption | omega) (by first | assumption | omega) (by first | assumption | omega) (by first | assumption | omega) (by first | assumption | omega) (by first | assumption | omega)
theorem lp_orders_lists_1_5 (n : Int) (e : S_Estate) (low : Int) (high : Int) (q1_0 : Int) (va1_0 : List Int) (q5_0 : Int) : ∀ (rest5 : Nat) (i5 : Nat) (hk5 : (n - ((i5 : Nat) : Int)).toNat = rest5) (hN5 : n ≤ 9223372036854775807) (hm5_b : ∀ i ∈ va1_0, 0 ≤ i ∧ i < ((e.items.l.length : Nat) : Int)) (hz5_b : va1_0.length ≤ 12) (hn : n = ((e.items.l.length : Nat) : Int)) (hle : e.items.l.length ≤ 12) (hL5 : n ≤ 1099511627776), (lim cfg).loopY (rg20083 n e low high) 103 lp103_5 ⟨30, [(0, .yld 4), (1, .ptr (I n)), (3, I q5_0), (4, .sl true [] 0 none), (7, I q1_0), (8, I q5_0), (11, I n), (12, I ((i5 : Nat) : Int))], [(0, ⟨[.fn (.func 73) [] [.ptr (.agg [.sl e.items.nl (e.items.l.map S_Item.D) (zsl e.items.nl 4) none, I e.whole.lo, I e.whole.hi]), .ptr (I low), .ptr (I high)]], 1, false⟩), (1, ⟨[.fn (.func 99) [] [.ptr (.agg [.sl e.items.nl (e.items.l.map S_Item.D) (zsl e.items.nl 4) none, I e.whole.lo, I e.whole.hi])]], 1, false⟩), (2, ⟨[.lsl 5 0 va1_0.length 1 none], 1, false⟩), (3, ⟨[B true], 1, false⟩), (5, ⟨va1_0.map I, 1, false⟩)], 6, 5⟩ = some (lr_orders_lists_1_5 n e low high q1_0 va1_0 q5_0 (zT va1_0 q5_0 rest5 i5)) := by
  intro rest5
  induction rest5 with
  | zero =>
    intro i5 hk5 hN5 hm5_b hz5_b hn hle hL5
    unfold zT
    exact po_lastY [.dec false] (And.intro (ct_no hk5) trivial) (by kernel_rfl)
  | succ rest5 ih =>
    intro i5 hk5 hN5 hm5_b hz5_b hn hle hL5
    have hlt5 := of_decide_eq_true (ct_at hk5)
    unfold zT
    cases h24 : ((w64 ((BitVec.ofInt 64 ((q5_0).fdiv (2 ^ (min (((i5 : Nat) : Int)).toNat 64))) &&& BitVec.ofInt 64 1).toNat : Int)) == 1) with
    | true =>
      exact po_turnY' (ks := [0, 1, 3, 4, 7, 8, 11, 12]) (st' := (sd20101 n e low high q1_0 i5 q5_0 va1_0)) [.dec true, .op (some 17) ⟨I ((q5_0).fdiv (2 ^ (min (((i5 : Nat) : Int)).toNat 64))), [], [], 6⟩, .dec true, .rw 24 (I ((i5 + 1 : Nat) : Int))] (And.intro (yb (i := i5) (by first | assumption | omega)) (And.intro h24 (And.intro (shr_op (C := cfg) (t := 3) (cst := false) (nxt := 6) (a := q5_0) (b := ((i5 : Nat) : Int)) (by first | assumption | omega)) (And.intro (ct_at hk5) trivial)))) (by kernel_rfl) (by (simp only [sd20101, go_sem, Nat.reduceAdd, Nat.reduceEqDiff, Nat.reduceLT, Nat.reduceLeDiff, bI2, zU.idsL, zU.renL, zU.snapAll, zg.idsL, zg.renL, zg.snapAll]) <;> rfl) (lp_orders_lists_1_5a n e low high q1_0 va1_0 q5_0 _ (i5 + 1) [((i5 : Nat) : Int)] va1_0 (by omega) hN5 (by first | assumption | omega | (with_reducible exact zc) | (with_reducible exact Nat.le_trans zq (by omega)) | (with_reducible exact Nat.le_trans zo (by omega)) | (with_reducible exact Nat.le_trans zp (by omega)) | (with_reducible exact zz) | (with_reducible exact zy (by omega)) | (with_reducible exact zx (by assumption) (by omega)) | (simp only [z8] at * <;> omega) | (simp only [z7, z6, z5, GS.nil_len, GS.some_l, List.length_set, List.length_append, List.length_cons, List.length_nil] at * <;> first | with_reducible assumption | omega) | (simp only [z7, z6, z5, GS.nil_len, GS.some_l, List.length_set, List.length_append, List.length_cons, List.length_nil, z8] at * <;> first | with_reducible assumption | omega) | (simp at * <;> omega)) (by first | assumption | omega | (with_reducible exact zc) | (with_reducible exact Nat.le_trans zq (by omega)) | (with_reducible exact Nat.le_trans zo (by omega)) | (with_reducible exact Nat.le_trans zp (by omega)) | (with_reducible exact zz) | (with_reducible exact zy (by omega)) | (with_reducible exact zx (by assumption) (by omega)) | (simp only [z8] at * <;> omega) | (simp only [z7, z6, z5, GS.nil_len, GS.some_l, List.length_set, List.length_append, List.length_cons, List.length_nil] at * <;> first | with_reducible assumption | omega) | (simp only [z7, z6, z5, GS.nil_len, GS.some_l, List.length_set, List.length_append, List.length_cons, List.length_nil, z8] at * <;> first | with_reducible assumption | omega) | (simp at * <;> omega)) (by first | assumption | omega) (by first | assumption | omega) (by first | assumption | omega) (by first | assumption | omega) (by first | assumption | omega) (by first | assumption | omega) (by first | assumption | omega | (with_reducible exact zc) | (with_reducible exact Nat.le_trans zq (by omega)) | (with_reducible exact Nat.le_trans zo (by omega)) | (with_reducible exact Nat.le_trans zp (by omega)) | (with_reducible exact zz) | (with_reducible exact zy (by omega)) | (with_reducible exact zx (by assumption) (by omega)) | (simp only [z8] at * <;> omega) | (simp only [z7, z6, z5, GS.nil_len, GS.some_l, List.length_set, List.length_append, List.length_cons, List.length_nil] at * <;> first | with_reducible assumption | omega) | (simp only [z7, z6, z5, GS.nil_len, GS.some_l, List.length_set, List.length_append, List.length_cons, List.length_nil, z8] at * <;> first | with_reducible assumption | omega) | (simp at * <;> omega)) (by first | assumption | omega)) (by kernel_rfl)
    | false =>
      exact po_turnY' (ks := [0, 1, 3, 4, 7, 8, 11, 12]) (st' := (sd20102 n e low high q1_0 i5 q5_0 va1_0)) [.dec true, .op (some 17) ⟨I ((q5_0).fdiv (2 ^ (min (((i5 : Nat) : Int)).toNat 64))), [], [], 6⟩, .dec false, .rw 24 (I ((i5 + 1 : Nat) : Int))] (And.intro (yb (i := i5) (by first | assumption | omega)) (And.intro h24 (And.intro (shr_op (C := cfg) (t := 3) (cst := false) (nxt := 6) (a := q5_0) (b := ((i5 : Nat) : Int)) (by first | assumption | omega)) (And.intro (ct_at hk5) trivial)))) (by kernel_rfl) (by (simp only [sd20102, go_sem, Nat.reduceAdd, Nat.reduceEqDiff, Nat.reduceLT, Nat.reduceLeDiff, bI2, zU.idsL, zU.renL, zU.snapAll, zg.idsL, zg.renL, zg.snapAll]) <;> rfl) (ih (i5 + 1) (by omega) hN5 (by first | assumption | omega) (by first | assumption | omega) (by first | assumption | omega) (by first | assumption | omega) (by first | assumption | omega)) (by kernel_rfl)
theorem ivt_orders_lists_1_5 (n : Int) (e : S_Estate) (low : Int) (high : Int) (q1_0 : Int) (va1_0 : List Int) (q5_0 : Int) : ∀ (rest5 : Nat) (i5 : Nat) (hk5 : (n - ((i5 : Nat) : Int)).toNat = rest5) (hN5 : n ≤ 9223372036854775807) (hm5_b : ∀ i ∈ va1_0, 0 ≤ i ∧ i < ((e.items.l.length : Nat) : Int)) (hz5_b : va1_0.length ≤ 12) (hn : n = ((e.items.l.length : Nat) : Int)) (hle : e.items.l.length ≤ 12) (hL5 : n ≤ 1099511627776), y6 n e low high q1_0 va1_0 q5_0 (zT va1_0 q5_0 rest5 i5) := by
  intro rest5
  induction rest5 with
  | zero =>
    intro i5 hk5 hN5 hm5_b hz5_b hn hle hL5
    unfold zT
    exact trivial
  | succ rest5 ih =>
    intro i5 hk5 hN5 hm5_b hz5_b hn hle hL5
    have hlt5 := of_decide_eq_true (ct_at hk5)
    unfold zT
    cases h24 : ((w64 ((BitVec.ofInt 64 ((q5_0).fdiv (2 ^ (min (((i5 : Nat) : Int)).toNat 64))) &&& BitVec.ofInt 64 1).toNat : Int)) == 1) with
    | true =>
      exact ivt_orders_lists_1_5a n e low high q1_0 va1_0 q5_0 _ (i5 + 1) [((i5 : Nat) : Int)] va1_0 (by omega) hN5 (by first | assumption | omega | (with_reducible exact zc) | (with_reducible exact Nat.le_trans zq (by omega)) | (with_reducible exact Nat.le_trans zo (by omega)) | (with_reducible exact Nat.le_trans zp (by omega)) | (with_reducible exact zz) | (with_reducible exact zy (by omega)) | (with_reducible exact zx (by assumption) (by omega)) | (simp only [z8] at * <;> omega) | (simp only [z7, z6, z5, GS.nil_len, GS.some_l, List.length_set, List.length_append, List.length_cons, List.length_nil] at * <;> first | with_reducible assumption | omega) | (simp only [z7, z6, z5, GS.nil_len, GS.some_l, List.length_set, List.length_append, List.length_cons, List.length_nil, z8] at * <;> first | with_reducible assumption | omega) | (simp at * <;> omega)) (by first | assumption | omega | (with_reducible exact zc) | (with_reducible exact Nat.le_trans zq (by omega)) | (with_reducible exact Nat.le_trans zo (by omega)) | (with_reducible exact Nat.le_trans zp (by omega)) | (with_reducible exact zz) | (with_reducible exact zy (by omega)) | (with_reducible exact zx (by assumption) (by omega)) | (simp only [z8] at * <;> omega) | (simp only [z7, z6, z5, GS.nil_len, GS.some_l, List.length_set, List.length_append, List.length_cons, List.length_nil] at * <;> first | with_reducible assumption | omega) | (simp only [z7, z6, z5, GS.nil_len, GS.some_l, List.length_set, List.length_append, List.length_cons, List.length_nil, z8] at * <;> first | with_reducible assumption | omega) | (simp at * <;> omega)) (by first | assumption | omega) (by first | assumption | omega) (by first | assumption | omega) (by first | assumption | omega) (by first | assumption | omega) (by first | assumption | omega) (by first | assumption | omega | (with_reducible exact zc) | (with_reducible exact Nat.le_trans zq (by omega)) | (with_reducible exact Nat.le_trans zo (by omega)) | (with_reducible exact Nat.le_trans zp (by omega)) | (with_reducible exact zz) | (with_reducible exact zy (by omega)) | (with_reducible exact zx (by assumption) (by omega)) | (simp only [z8] at * <;> omega) | (simp only [z7, z6, z5, GS.nil_len, GS.some_l, List.length_set, List.length_append, List.length_cons, List.length_nil] at * <;> first | with_reducible assumption | omega) | (simp only [z7, z6, z5, GS.nil_len, GS.some_l, List.length_set, List.length_append, List.length_cons, List.length_nil, z8] at * <;> first | with_reducible assumption | omega) | (simp at * <;> omega)) (by first | assumption | omega)
    | false =>
      exact ih (i5 + 1) (by omega) hN5 (by first | assumption | omega) (by first | assumption | omega) (by first | assumption | omega) (by first | assumption | omega) (by first | assumption | omega)

theorem nza_orders_lists_1_5 (w : List Int) (q : Int) : ∀ (rest i : Nat) (v u : List Int) (j : Nat), zW w q rest i v u ≠ .x1 j := by
  intro rest
  induction rest with
  | zero => intro i v u j h; cases h
  | succ rest ih =>
    intro i v u j
    unfold zW
    rw [Bool.cond_eq_ite]
    split
    · exact ih _ _ _ _
    · exact ih _ _ _ _
theorem nzb_orders_lists_1_5 (w : List Int) {m : Nat} (hm : m < 4611686018427387904) : ∀ (rest i : Nat) (j : Nat), i + rest ≤ 64 → zT w ((m : Nat) : Int) rest i = .x1 j → ∀ k, i ≤ k → k < i + rest → m.testBit k = false := by
  intro rest
  induction rest with
  | zero => intro i j _ _ k h1 h2; omega
  | succ rest ih =>
    intro i j hb h k h1 h2
    unfold zT at h
    rw [bt_eq hm (by omega), Bool.cond_eq_ite] at h
    split at h
    · exact absurd h (nza_orders_lists_1_5 _ _ _ _ _ _ _)
    · rename_i hc
      by_cases hk : k = i
      · subst hk; simpa using hc
      · exact ih (i + 1) j (by omega) h k (by omega) (by omega)
theorem nz_orders_lists_1_5 {e : S_Estate} {n : Int} {i1 j : Nat} (w : List Int) (hn : n = ((e.items.l.length : Nat) : Int)) (hle : e.items.l.length ≤ 12) (hlt : ((i1 : Nat) : Int) < w64 (1 * 2 ^ (min (n).toNat 64))) (h : zT w ((i1 : Nat) : Int) (n - 0).toNat 0 = .x1 j) : ¬ 1 ≤ i1 := by
  rw [shl_one (by omega) (by omega)] at hlt
  have hlt' : i1 < 2 ^ n.toNat := Int.ofNat_lt.1 hlt
  have hp : 2 ^ n.toNat ≤ 2 ^ 12 := Nat.pow_le_pow_right (by omega) (by omega)
  have := no_bits hlt' fun k hk => nzb_orders_lists_1_5 w (by omega) _ _ _ (by omega) h k (by omega) (by omega)
  omega

def sd20104 (n : Int) (e : S_Estate) (low : Int) (high : Int) (q1_0 : Int) (v1_0 : Bool) (i5p1 : Nat) (q5p1_0 : Int) (va5p1_0 : List Int) : St := ⟨30, [(12, I ((i5p1 + 1 : Nat) : Int)), (24, I ((i5p1 + 1 : Nat) : Int)), (4, .lsl 7 0 ((va5p1_0 ++ [((i5p1 : Nat) : Int)]).length) 1 none), (23, .lsl 7 0 ((va5p1_0 ++ [((i5p1 : Nat) : Int)]).length) 1 none), (22, .lsl 6 0 1 1 (some 1)), (21, I ((i5p1 : Nat) : Int)), (20, .lsl 5 0 va5p1_0.length 1 none), (19, B true), (18, I (w64 ((BitVec.ofInt 64 ((q5p1_0).fdiv (2 ^ (min (((i5p1 : Nat) : Int)).toNat 64))) &&& BitVec.ofInt 64 1).toNat : Int))), (17, I ((q5p1_0).fdiv (2 ^ (min (((i5p1 : Nat) : Int)).toNat 64)))), (16, I ((i5p1 : Nat) : Int)), (15, I q5p1_0), (5, I ((i5p1 : Nat) : Int)), (14, I ((i5p1 : Nat) : Int)), (13, B true), (0, .yld 4), (1, .ptr (I n)), (3, I q5p1_0), (4, .lsl 5 0 va5p1_0.length 1 none), (7, I q1_0), (8, I q5p1_0), (11, I n), (12, I ((i5p1 : Nat) : Int))], [(0, ⟨[.fn (.func 73) [] [.ptr (.agg [.sl e.items.nl (e.items.l.map S_Item.D) (zsl e.items.nl 4) none, I e.whole.lo, I e.whole.hi]), .ptr (I low), .ptr (I high)]], 1, false⟩), (1, ⟨[.fn (.func 99) [] [.ptr (.agg [.sl e.items.nl (e.items.l.map S_Item.D) (zsl e.items.nl 4) none, I e.whole.lo, I e.whole.hi])]], 1, false⟩), (2, ⟨[.sl true [] 0 none], 1, false⟩), (3, ⟨[B v1_0], 1, false⟩), (6, ⟨[I ((i5p1 : Nat) : Int)], 1, false⟩), (7, ⟨(va5p1_0 ++ [((i5p1 : Nat) : Int)]).map I, 1, false⟩)], 8, 5⟩

def sd20105 (n : Int) (e : S_Estate) (low : Int) (high : Int) (q1_0 : Int) (v1_0 : Bool) (i5p1 : Nat) (q5p1_0 : Int) (va5p1_0 : List Int) : St := ⟨30, [(12, I ((i5p1 + 1 : Nat) : Int)), (24, I ((i5p1 + 1 : Nat) : Int)), (19, B false), (18, I (w64 ((BitVec.ofInt 64 ((q5p1_0).fdiv (2 ^ (min (((i5p1 : Nat) : Int)).toNat 64))) &&& BitVec.ofInt 64 1).toNat : Int))), (17, I ((q5p1_0).fdiv (2 ^ (min (((i5p1 : Nat) : Int)).toNat 64)))), (16, I ((i5p1 : Nat) : Int)), (15, I q5p1_0), (5, I ((i5p1 : Nat) : Int)), (14, I ((i5p1 : Nat) : Int)), (13, B true), (0, .yld 4), (1, .ptr (I n)), (3, I q5p1_0), (4, .lsl 5 0 va5p1_0.length 1 none), (7, I q1_0), (8, I q5p1_0), (11, I n), (12, I ((i5p1 : Nat) : Int))], [(0, ⟨[.fn (.func 73) [] [.ptr (.agg [.sl e.items.nl (e.items.l.map S_Item.D) (zsl e.items.nl 4) none, I e.whole.lo, I e.whole.hi]), .ptr (I low), .ptr (I high)]], 1, false⟩), (1, ⟨[.fn (.func 99) [] [.ptr (.agg [.sl e.items.nl (e.items.l.map S_Item.D) (zsl e.items.nl 4) none, I e.whole.lo, I e.whole.hi])]], 1, false⟩), (2, ⟨[.sl true [] 0 none], 1, false⟩), (3, ⟨[B v1_0], 1, false⟩), (5, ⟨va5p1_0.map I, 1, false⟩)], 6, 5⟩

inductive LR_orders_lists_1_5p1 where
  | x0 (i5p1 : Nat) (va5p1_0 : List Int)
  | x1 (i5p1 : Nat)
instance : Inhabited LR_orders_lists_1_5p1 := ⟨.x0 default default⟩
def y7 (q5p1_0 : Int) : Nat → Nat → (List Int) → LR_orders_lists_1_5p1
  | 0, i5p1, va5p1_0 => .x0 i5p1 va5p1_0
  | rest5p1 + 1, i5p1, va5p1_0 =>
    bif ((w64 ((BitVec.ofInt 64 ((q5p1_0).fdiv (2 ^ (min (((i5p1 : Nat) : Int)).toNat 64))) &&& BitVec.ofInt 64 1).toNat : Int)) == 1) then
      y7 q5p1_0 rest5p1 (i5p1 + 1) (va5p1_0 ++ [((i5p1 : Nat) : Int)])
    else
      y7 q5p1_0 rest5p1 (i5p1 + 1) va5p1_0
def y0 (q5p1_0 : Int) : Nat → Nat → LR_orders_lists_1_5p1
  | 0, i5p1 => .x1 i5p1
  | rest5p1 + 1, i5p1 =>
    bif ((w64 ((BitVec.ofInt 64 ((q5p1_0).fdiv (2 ^ (min (((i5p1 : Nat) : Int)).toNat 64))) &&& BitVec.ofInt 64 1).toNat : Int)) == 1) then
      y7 q5p1_0 rest5p1 (i5p1 + 1) [((i5p1 : Nat) : Int)]
    else
      y0 q5p1_0 rest5p1 (i5p1 + 1)
def lr_orders_lists_1_5p1 (n : Int) (e : S_Estate) (low : Int) (high : Int) (q1_0 : Int) (v1_0 : Bool) (q5p1_0 : Int) : LR_orders_lists_1_5p1 → Exit × St × Option Code
  | .x0 i5p1 va5p1_0 => ((.exit 2), ⟨30, [(13, B false), (0, .yld 4), (1, .ptr (I n)), (3, I q5p1_0), (4, .lsl 5 0 va5p1_0.length 1 none), (7, I q1_0), (8, I q5p1_0), (11, I n), (12, I ((i5p1 : Nat) : Int))], [(0, ⟨[.fn (.func 73) [] [.ptr (.agg [.sl e.items.nl (e.items.l.map S_Item.D) (zsl e.items.nl 4) none, I e.whole.lo, I e.whole.hi]), .ptr (I low), .ptr (I high)]], 1, false⟩), (1, ⟨[.fn (.func 99) [] [.ptr (.agg [.sl e.items.nl (e.items.l.map S_Item.D) (zsl e.items.nl 4) none, I e.whole.lo, I e.whole.hi])]], 1, false⟩), (2, ⟨[.sl true [] 0 none], 1, false⟩), (3, ⟨[B v1_0], 1, false⟩), (5, ⟨va5p1_0.map I, 1, false⟩)], 6, 5⟩, none)
  | .x1 i5p1 => ((.exit 2), ⟨30, [(13, B false), (0, .yld 4), (1, .ptr (I n)), (3, I q5p1_0), (4, .sl true [] 0 none), (7, I q1_0), (8, I q5p1_0), (11, I n), (12, I ((i5p1 : Nat) : Int))], [(0, ⟨[.fn (.func 73) [] [.ptr (.agg [.sl e.items.nl (e.items.l.map S_Item.D) (zsl e.items.nl 4) none, I e.whole.lo, I e.whole.hi]), .ptr (I low), .ptr (I high)]], 1, false⟩), (1, ⟨[.fn (.func 99) [] [.ptr (.agg [.sl e.items.nl (e.items.l.map S_Item.D) (zsl e.items.nl 4) none, I e.whole.lo, I e.whole.hi])]], 1, false⟩), (2, ⟨[.sl true [] 0 none], 1, false⟩), (3, ⟨[B v1_0], 1, false⟩)], 5, 5⟩, none)
def iv_orders_lists_1_5p1 (n : Int) (e : S_Estate) (low : Int) (high : Int) (q1_0 : Int) (v1_0 : Bool) (q5p1_0 : Int) : LR_orders_lists_1_5p1 → Prop
  | .x0 i5p1 va5p1_0 => (∀ i ∈ va5p1_0, 0 ≤ i ∧ i < ((e.items.l.length : Nat) : Int)) ∧ (va5p1_0.length ≤ 12) ∧ (va5p1_0.length ≤ i5p1)
  | .x1 i5p1 => True
theorem lp_orders_lists_1_5p1a (n : Int) (e : S_Estate) (low : Int) (high : Int) (q1_0 : Int) (v1_0 : Bool) (q5p1_0 : Int) : ∀ (rest5p1 : Nat) (i5p1 : Nat) (va5p1_0 : List Int) (hk5p1 : (n - ((i5p1 : Nat) : Int)).toNat = rest5p1) (hN5p1 : n ≤ 9223372036854775807) (hm5p1_va5p1_0 : ∀ i ∈ va5p1_0, 0 ≤ i ∧ i < ((e.items.l.length : Nat) : Int)) (hz5p1_va5p1_0 : va5p1_0.length ≤ 12) (hn : n = ((e.items.l.length : Nat) : Int)) (hle : e.items.l.length ≤ 12) (hg5p1_va5p1_0 : va5p1_0.length ≤ i5p1) (hL5p1 : n ≤ 1099511627776), (lim cfg).loopY (rg20083 n e low high) 103 lp103_5 ⟨30, [(0, .yld 4), (1, .ptr (I n)), (3, I q5p1_0), (4, .lsl 5 0 va5p1_0.length 1 none), (7, I q1_0), (8, I q5p1_0), (11, I n), (12, I ((i5p1 : Nat) : Int))], [(0, ⟨[.fn (.func 73) [] [.ptr (.agg [.sl e.items.nl (e.items.l.map S_Item.D) (zsl e.items.nl 4) none, I e.whole.lo, I e.whole.hi]), .ptr (I low), .ptr (I high)]], 1, false⟩), (1, ⟨[.fn (.func 99) [] [.ptr (.agg [.sl e.items.nl (e.items.l.map S_Item.D) (zsl e.items.nl 4) none, I e.whole.lo, I e.whole.hi])]], 1, false⟩), (2, ⟨[.sl true [] 0 none], 1, false⟩), (3, ⟨[B v1_0], 1, false⟩), (5, ⟨va5p1_0.map I, 1, false⟩)], 6, 5⟩ = some (lr_orders_lists_1_5p1 n e low high q1_0 v1_0 q5p1_0 (y7 q5p1_0 rest5p1 i5p1 va5p1_0)) := by
  intro rest5p1
  induction rest5p1 with
  | zero =>
    intro i5p1 va5p1_0 hk5p1 hN5p1 hm5p1_va5p1_0 hz5p1_va5p1_0 hn hle hg5p1_va5p1_0 hL5p1
    unfold y7
    exact po_lastY [.dec false] (And.intro (ct_no hk5p1) trivial) (by kernel_rfl)
  | succ rest5p1 ih =>
    intro i5p1 va5p1_0 hk5p1 hN5p1 hm5p1_va5p1_0 hz5p1_va5p1_0 hn hle hg5p1_va5p1_0 hL5p1
    have hlt5p1 := of_decide_eq_true (ct_at hk5p1)
    unfold y7
    cases h30 : ((w64 ((BitVec.ofInt 64 ((q5p1_0).fdiv (2 ^ (min (((i5p1 : Nat) : Int)).toNat 64))) &&& BitVec.ofInt 64 1).toNat : Int)) == 1) with
    | true =>
      exact po_turnY' (ks := [0, 1, 3, 4, 7, 8, 11, 12]) (st' := (sd20104 n e low high q1_0 v1_0 i5p1 q5p1_0 va5p1_0)) [.dec true, .op (some 17) ⟨I ((q5p1_0).fdiv (2 ^ (min (((i5p1 : Nat) : Int)).toNat 64))), [], [], 6⟩, .dec true, .op (some 23) ⟨.lsl 7 0 ((va5p1_0 ++ [((i5p1 : Nat) : Int)]).length) 1 none, [(5, none), (7, some ⟨(va5p1_0 ++ [((i5p1 : Nat) : Int)]).map I, 1, false⟩)], [5, 6], 8⟩, .rw 24 (I ((i5p1 + 1 : Nat) : Int))] (And.intro (yb (i := i5p1) (by first | assumption | omega)) (And.intro (app_row (f := I) (te := ty3) (gO := zD [(0, ⟨[.fn (.func 73) [] [.ptr (.agg [.sl e.items.nl (e.items.l.map S_Item.D) (zsl e.items.nl 4) none, I e.whole.lo, I e.whole.hi]), .ptr (I low), .ptr (I high)]], 1, false⟩), (1, ⟨[.fn (.func 99) [] [.ptr (.agg [.sl e.items.nl (e.items.l.map S_Item.D) (zsl e.items.nl 4) none, I e.whole.lo, I e.whole.hi])]], 1, false⟩), (2, ⟨[.sl true [] 0 none], 1, false⟩), (3, ⟨[B v1_0], 1, false⟩), (5, ⟨va5p1_0.map I, 1, false⟩), (6, ⟨[I ((i5p1 : Nat) : Int)], 1, false⟩)]) (nxt := 7) (o := 5) (o2 := 6) (fz := false) zU va5p1_0 ((i5p1 : Nat) : Int) (by kernel_rfl) (by kernel_rfl) rfl (by kernel_rfl) (by decide) ⟨by simp only [ty3, big] <;> (first | assumption | omega | (with_reducible exact zc) | (with_reducible exact Nat.le_trans zq (by omega)) | (with_reducible exact Nat.le_trans zo (by omega)) | (with_reducible exact Nat.le_trans zp (by omega)) | (with_reducible exact zz) | (with_reducible exact zy (by omega)) | (with_reducible exact zx (by assumption) (by omega)) | (simp only [z8] at * <;> omega) | (simp only [z7, z6, z5, GS.nil_len, GS.some_l, List.length_set, List.length_append, List.length_cons, List.length_nil] at * <;> first | with_reducible assumption | omega) | (simp only [z7, z6, z5, GS.nil_len, GS.some_l, List.length_set, List.length_append, List.length_cons, List.length_nil, z8] at * <;> first | with_reducible assumption | omega) | (simp at * <;> omega)), by simp only [big] <;> (first | assumption | omega | (with_reducible exact zc) | (with_reducible exact Nat.le_trans zq (by omega)) | (with_reducible exact Nat.le_trans zo (by omega)) | (with_reducible exact Nat.le_trans zp (by omega)) | (with_reducible exact zz) | (with_reducible exact zy (by omega)) | (with_reducible exact zx (by assumption) (by omega)) | (simp only [z8] at * <;> omega) | (simp only [z7, z6, z5, GS.nil_len, GS.some_l, List.length_set, List.length_append, List.length_cons, List.length_nil] at * <;> first | with_reducible assumption | omega) | (simp only [z7, z6, z5, GS.nil_len, GS.some_l, List.length_set, List.length_append, List.length_cons, List.length_nil, z8] at * <;> first | with_reducible assumption | omega) | (simp at * <;> omega))⟩) (And.intro h30 (And.intro (shr_op (C := cfg) (t := 3) (cst := false) (nxt := 6) (a := q5p1_0) (b := ((i5p1 : Nat) : Int)) (by first | assumption | omega)) (And.intro (ct_at hk5p1) trivial))))) (by kernel_rfl) (by (simp only [sd20104, go_sem, Nat.reduceAdd, Nat.reduceEqDiff, Nat.reduceLT, Nat.reduceLeDiff, bI2, zU.idsL, zU.renL, zU.snapAll, zg.idsL, zg.renL, zg.snapAll]) <;> rfl) (ih (i5p1 + 1) (va5p1_0 ++ [((i5p1 : Nat) : Int)]) (by omega) hN5p1 (by first | assumption | omega | (with_reducible exact zc) | (with_reducible exact Nat.le_trans zq (by omega)) | (with_reducible exact Nat.le_trans zo (by omega)) | (with_reducible exact Nat.le_trans zp (by omega)) | (with_reducible exact zz) | (with_reducible exact zy (by omega)) | (with_reducible exact zx (by assumption) (by omega)) | (simp only [z8] at * <;> omega) | (simp only [z7, z6, z5, GS.nil_len, GS.some_l, List.length_set, List.length_append, List.length_cons, List.length_nil] at * <;> first | with_reducible assumption | omega) | (simp only [z7, z6, z5, GS.nil_len, GS.some_l, List.length_set, List.length_append, List.length_cons, List.length_nil, z8] at * <;> first | with_reducible assumption | omega) | (simp at * <;> omega)) (by first | assumption | omega | (with_reducible exact zc) | (with_reducible exact Nat.le_trans zq (by omega)) | (with_reducible exact Nat.le_trans zo (by omega)) | (with_reducible exact Nat.le_trans zp (by omega)) | (with_reducible exact zz) | (with_reducible exact zy (by omega)) | (with_reducible exact zx (by assumption) (by omega)) | (simp only [z8] at * <;> omega) | (simp only [z7, z6, z5, GS.nil_len, GS.some_l, List.length_set, List.length_append, List.length_cons, List.length_nil] at * <;> first | with_reducible assumption | omega) | (simp only [z7, z6, z5, GS.nil_len, GS.some_l, List.length_set, List.length_append, List.length_cons, List.length_nil, z8] at * <;> first | with_reducible assumption | omega) | (simp at * <;> omega)) (by first | assumption | omega) (by first | assumption | omega) (by first | assumption | omega | (with_reducible exact zc) | (with_reducible exact Nat.le_trans zq (by omega)) | (with_reducible exact Nat.le_trans zo (by omega)) | (with_reducible exact Nat.le_trans zp (by omega)) | (with_reducible exact zz) | (with_reducible exact zy (by omega)) | (with_reducible exact zx (by assumption) (by omega)) | (simp only [z8] at * <;> omega) | (simp only [z7, z6, z5, GS.nil_len, GS.some_l, List.length_set, List.length_append, List.length_cons, List.length_nil] at * <;> first | with_reducible assumption | omega) | (simp only [z7, z6, z5, GS.nil_len, GS.some_l, List.length_set, List.length_append, List.length_cons, List.length_nil, z8] at * <;> first | with_reducible assumption | omega) | (simp at * <;> omega)) (by first | assumption | omega)) (by kernel_rfl)
    | false =>
      exact po_turnY' (ks := [0, 1, 3, 4, 7, 8, 11, 12]) (st' := (sd20105 n e low high q1_0 v1_0 i5p1 q5p1_0 va5p1_0)) [.dec true, .op (some 17) ⟨I ((q5p1_0).fdiv (2 ^ (min (((i5p1 : Nat) : Int)).toNat 64))), [], [], 6⟩, .dec false, .rw 24 (I ((i5p1 + 1 : Nat) : Int))] (And.intro (yb (i := i5p1) (by first | assumption | omega)) (And.intro h30 (And.intro (shr_op (C := cfg) (t := 3) (cst := false) (nxt := 6) (a := q5p1_0) (b := ((i5p1 : Nat) : Int)) (by first | assumption | omega)) (And.intro (ct_at hk5p1) trivial)))) (by kernel_rfl) (by (simp only [sd20105, go_sem, Nat.reduceAdd, Nat.reduceEqDiff, Nat.reduceLT, Nat.reduceLeDiff, bI2, zU.idsL, zU.renL, zU.snapAll, zg.idsL, zg.renL, zg.snapAll]) <;> rfl) (ih (i5p1 + 1) va5p1_0 (by omega) hN5p1 (by first | assumption | omega) (by first | assumption | omega) (by first | assumption | omega) (by first | assumption | omega) (by first | assumption | omega) (by first | assumption | omega)) (by kernel_rfl)
theorem ivt_orders_lists_1_5p1a (n : Int) (e : S_Estate) (low : Int) (high : Int) (q1_0 : Int) (v1_0 : Bool) (q5p1_0 : Int) : ∀ (rest5p1 : Nat) (i5p1 : Nat) (va5p1_0 : List Int) (hk5p1 : (n - ((i5p1 : Nat) : Int)).toNat = rest5p1) (hN5p1 : n ≤ 9223372036854775807) (hm5p1_va5p1_0 : ∀ i ∈ va5p1_0, 0 ≤ i ∧ i < ((e.items.l.length : Nat) : Int)) (hz5p1_va5p1_0 : va5p1_0.length ≤ 12) (hn : n = ((e.items.l.length : Nat) : Int)) (hle : e.items.l.length ≤ 12) (hg5p1_va5p1_0 : va5p1_0.length ≤ i5p1) (hL5p1 : n ≤ 1099511627776), iv_orders_lists_1_5p1 n e low high q1_0 v1_0 q5p1_0 (y7 q5p1_0 rest5p1 i5p1 va5p1_0) := by
  intro rest5p1
  induction rest5p1 with
  | zero =>
    intro i5p1 va5p1_0 hk5p1 hN5p1 hm5p1_va5p1_0 hz5p1_va5p1_0 hn hle hg5p1_va5p1_0 hL5p1
    unfold y7
    exact ⟨hm5p1_va5p1_0, hz5p1_va5p1_0, hg5p1_va5p1_0⟩
  | succ rest5p1 ih =>
    intro i5p1 va5p1_0 hk5p1 hN5p1 hm5p1_va5p1_0 hz5p1_va5p1_0 hn hle hg5p1_va5p1_0 hL5p1
    have hlt5p1 := of_decide_eq_true (ct_at hk5p1)
    unfold y7
    cases h30 : ((w64 ((BitVec.ofInt 64 ((q5p1_0).fdiv (2 ^ (min (((i5p1 : Nat) : Int)).toNat 64))) &&& BitVec.ofInt 64 1).toNat : Int)) == 1) with
    | true =>
      exact ih (i5p1 + 1) (va5p1_0 ++ [((i5p1 : Nat) : Int)]) (by omega) hN5p1 (by first | assumption | omega | (with_reducible exact zc) | (with_reducible exact Nat.le_trans zq (by omega)) | (with_reducible exact Nat.le_trans zo (by omega)) | (with_reducible exact Nat.le_trans zp (by omega)) | (with_reducible exact zz) | (with_reducible exact zy (by omega)) | (with_reducible exact zx (by assumption) (by omega)) | (simp only [z8] at * <;> omega) | (simp only [z7, z6, z5, GS.nil_len, GS.some_l, List.length_set, List.length_append, List.length_cons, List.length_nil] at * <;> first | with_reducible assumption | omega) | (simp only [z7, z6, z5, GS.nil_len, GS.some_l, List.length_set, List.length_append, List.length_cons, List.length_nil, z8] at * <;> first | with_reducible assumption | omega) | (simp at * <;> omega)) (by first | assumption | omega | (with_reducible exact zc) | (with_reducible exact Nat.le_trans zq (by omega)) | (with_reducible exact Nat.le_trans zo (by omega)) | (with_reducible exact Nat.le_trans zp (by omega)) | (with_reducible exact zz) | (with_reducible exact zy (by omega)) | (with_reducible exact zx (by assumption) (by omega)) | (simp only [z8] at * <;> omega) | (simp only [z7, z6, z5, GS.nil_len, GS.some_l, List.length_set, List.length_append, List.length_cons, List.length_nil] at * <;> first | with_reducible assumption | omega) | (simp only [z7, z6, z5, GS.nil_len, GS.some_l, List.length_set, List.length_append, List.length_cons, List.length_nil, z8] at * <;> first | with_reducible assumption | omega) | (simp at * <;> omega)) (by first | assumption | omega) (by first | assumption | omega) (by first | assumption | omega | (with_reducible exact zc) | (with_reducible exact Nat.le_trans zq (by omega)) | (with_reducible exact Nat.le_trans zo (by omega)) | (with_reducible exact Nat.le_trans zp (by omega)) | (with_reducible exact zz) | (with_reducible exact zy (by omega)) | (with_reducible exact zx (by assumption) (by omega)) | (simp only [z8] at * <;> omega) | (simp only [z7, z6, z5, GS.nil_len, GS.some_l, List.length_set, List.length_append, List.length_cons, List.length_nil] at * <;> first | with_reducible assumption | omega) | (simp only [z7, z6, z5, GS.nil_len, GS.some_l, List.length_set, List.length_append, List.length_cons, List.length_nil, z8] at * <;> first | with_reducible assumption | omega) | (simp at * <;> omega)) (by first | assumption | omega)
    | false =>
      exact ih (i5p1 + 1) va5p1_0 (by omega) hN5p1 (by first | assumption | omega) (by first | assumption | omega) (by first | assumption | omega) (by first | assumption | omega) (by first | assumption | omega) (by first | assumption | omega)
theorem lp_orders_lists_1_5p1 (n : Int) (e : S_Estate) (low : Int) (high : Int) (q1_0 : Int) (v1_0 : Bool) (q5p1_0 : Int) : ∀ (rest5p1 : Nat) (i5p1 : Nat) (hk5p1 : (n - ((i5p1 : Nat) : Int)).toNat = rest5p1) (hN5p1 : n ≤ 9223372036854775807) (hn : n = ((e.items.l.length : Nat) : Int)) (hle : e.items.l.length ≤ 12) (hL5p1 : n ≤ 1099511627776), (lim cfg).loopY (rg20083 n e low high) 103 lp103_5 ⟨30, [(0, .yld 4), (1, .ptr (I n)), (3, I q5p1_0), (4, .sl true [] 0 none), (7, I q1_0), (8, I q5p1_0), (11, I n), (12, I ((i5p1 : Nat) : Int))], [(0, ⟨[.fn (.func 73) [] [.ptr (.agg [.sl e.items.nl (e.items.l.map S_Item.D) (zsl e.items.nl 4) none, I e.whole.lo, I e.whole.hi]), .ptr (I low), .ptr (I high)]], 1, false⟩), (1, ⟨[.fn (.func 99) [] [.ptr (.agg [.sl e.items.nl (e.items.l.map S_Item.D) (zsl e.items.nl 4) none, I e.whole.lo, I e.whole.hi])]], 1, false⟩), (2, ⟨[.sl true [] 0 none], 1, false⟩), (3, ⟨[B v1_0], 1, false⟩)], 5, 5⟩ = some (lr_orders_lists_1_5p1 n e low high q1_0 v1_0 q5p1_0 (y0 q5p1_0 rest5p1 i5p1)) := by
  intro rest5p1
  induction rest5p1 with
  | zero =>
    intro i5p1 hk5p1 hN5p1 hn hle hL5p1
    unfold y0
    exact po_lastY [.dec false] (And.intro (ct_no hk5p1) trivial) (by kernel_rfl)
  | succ rest5p1 ih =>
    intro i5p1 hk5p1 hN5p1 hn hle hL5p1
    have hlt5p1 := of_decide_eq_true (ct_at hk5p1)
    unfold y0
    cases h31 : ((w64 ((BitVec.ofInt 64 ((q5p1_0).fdiv (2 ^ (min (((i5p1 : Nat) : Int)).toNat 64))) &&& BitVec.ofInt 64 1).toNat : Int)) == 1) with
    | true =>
      exact po_turnY [.dec true, .op (some 17) ⟨I ((q5p1_0).fdiv (2 ^ (min (((i5p1 : Nat) : Int)).toNat 64))), [], [], 5⟩, .dec true, .rw 24 (I ((i5p1 + 1 : Nat) : Int))] (And.intro (yb (i := i5p1) (by first | assumption | omega)) (And.intro h31 (And.intro (shr_op (C := cfg) (t := 3) (cst := false) (nxt := 5) (a := q5p1_0) (b := ((i5p1 : Nat) : Int)) (by first | assumption | omega)) (And.intro (ct_at hk5p1) trivial)))) (lp_orders_lists_1_5p1a n e low high q1_0 v1_0 q5p1_0 _ (i5p1 + 1) [((i5p1 : Nat) : Int)] (by omega) hN5p1 (by first | assumption | omega | (with_reducible exact zc) | (with_reducible exact Nat.le_trans zq (by omega)) | (with_reducible exact Nat.le_trans zo (by omega)) | (with_reducible exact Nat.le_trans zp (by omega)) | (with_reducible exact zz) | (with_reducible exact zy (by omega)) | (with_reducible exact zx (by assumption) (by omega)) | (simp only [z8] at * <;> omega) | (simp only [z7, z6, z5, GS.nil_len, GS.some_l, List.length_set, List.length_append, List.length_cons, List.length_nil] at * <;> first | with_reducible assumption | omega) | (simp only [z7, z6, z5, GS.nil_len, GS.some_l, List.length_set, List.length_append, List.length_cons, List.length_nil, z8] at * <;> first | with_reducible assumption | omega) | (simp at * <;> omega)) (by first | assumption | omega | (with_reducible exact zc) | (with_reducible exact Nat.le_trans zq (by omega)) | (with_reducible exact Nat.le_trans zo (by omega)) | (with_reducible exact Nat.le_trans zp (by omega)) | (with_reducible exact zz) | (with_reducible exact zy (by omega)) | (with_reducible exact zx (by assumption) (by omega)) | (simp only [z8] at * <;> omega) | (simp only [z7, z6, z5, GS.nil_len, GS.some_l, List.length_set, List.length_append, List.length_cons, List.length_nil] at * <;> first | with_reducible assumption | omega) | (simp only [z7, z6, z5, GS.nil_len, GS.some_l, List.length_set, List.length_append, List.length_cons, List.length_nil, z8] at * <;> first | with_reducible assumption | omega) | (simp at * <;> omega)) (by first | assumption | omega) (by first | assumption | omega) (by first | assumption | omega | (with_reducible exact zc) | (with_reducible exact Nat.le_trans zq (by omega)) | (with_reducible exact Nat.le_trans zo (by omega)) | (with_reducible exact Nat.le_trans zp (by omega)) | (with_reducible exact zz) | (with_reducible exact zy (by omega)) | (with_reducible exact zx (by assumption) (by omega)) | (simp only [z8] at * <;> omega) | (simp only [z7, z6, z5, GS.nil_len, GS.some_l, List.length_set, List.length_append, List.length_cons, List.length_nil] at * <;> first | with_reducible assumption | omega) | (simp only [z7, z6, z5, GS.nil_len, GS.some_l, List.length_set, List.length_append, List.length_cons, List.length_nil, z8] at * <;> first | with_reducible assumption | omega) | (simp at * <;> omega)) (by first | assumption | omega)) (by kernel_rfl)
    | false =>
      exact po_turnY [.dec true, .op (some 17) ⟨I ((q5p1_0).fdiv (2 ^ (min (((i5p1 : Nat) : Int)).toNat 64))), [], [], 5⟩, .dec false, .rw 24 (I ((i5p1 + 1 : Nat) : Int))] (And.intro (yb (i := i5p1) (by first | assumption | omega)) (And.intro h31 (And.intro (shr_op (C := cfg) (t := 3) (cst := false) (nxt := 5) (a := q5p1_0) (b := ((i5p1 : Nat) : Int)) (by first | assumption | omega)) (And.intro (ct_at hk5p1) trivial)))) (ih (i5p1 + 1) (by omega) hN5p1 (by first | assumption | omega) (by first | assumption | omega) (by first | assumption | omega)) (by kernel_rfl)
theorem ivt_orders_lists_1_5p1 (n : Int) (e : S_Estate) (low : Int) (high : Int) (q1_0 : Int) (v1_0 : Bool) (q5p1_0 : Int) : ∀ (rest5p1 : Nat) (i5p1 : Nat) (hk5p1 : (n - ((i5p1 : Nat) : Int)).toNat = rest5p1) (hN5p1 : n ≤ 9223372036854775807) (hn : n = ((e.items.l.length : Nat) : Int)) (hle : e.items.l.length ≤ 12) (hL5p1 : n ≤ 1099511627776), iv_orders_lists_1_5p1 n e low high q1_0 v1_0 q5p1_0 (y0 q5p1_0 rest5p1 i5p1) := by
  intro rest5p1
  induction rest5p1 with
  | zero =>
    intro i5p1 hk5p1 hN5p1 hn hle hL5p1
    unfold y0
    exact trivial
  | succ rest5p1 ih =>
    intro i5p1 hk5p1 hN5p1 hn hle hL5p1
    have hlt5p1 := of_decide_eq_true (ct_at hk5p1)
    unfold y0
    cases h31 : ((w64 ((BitVec.ofInt 64 ((q5p1_0).fdiv (2 ^ (min (((i5p1 : Nat) : Int)).toNat 64))) &&& BitVec.ofInt 64 1).toNat : Int)) == 1) with
    | true =>
      exact ivt_orders_lists_1_5p1a n e low high q1_0 v1_0 q5p1_0 _ (i5p1 + 1) [((i5p1 : Nat) : Int)] (by omega) hN5p1 (by first | assumption | omega | (with_reducible exact zc) | (with_reducible exact Nat.le_trans zq (by omega)) | (with_reducible exact Nat.le_trans zo (by omega)) | (with_reducible exact Nat.le_trans zp (by omega)) | (with_reducible exact zz) | (with_reducible exact zy (by omega)) | (with_reducible exact zx (by assumption) (by omega)) | (simp only [z8] at * <;> omega) | (simp only [z7, z6, z5, GS.nil_len, GS.some_l, List.length_set, List.length_append, List.length_cons, List.length_nil] at * <;> first | with_reducible assumption | omega) | (simp only [z7, z6, z5, GS.nil_len, GS.some_l, List.length_set, List.length_append, List.length_cons, List.length_nil, z8] at * <;> first | with_reducible assumption | omega) | (simp at * <;> omega)) (by first | assumption | omega | (with_reducible exact zc) | (with_reducible exact Nat.le_trans zq (by omega)) | (with_reducible exact Nat.le_trans zo (by omega)) | (with_reducible exact Nat.le_trans zp (by omega)) | (with_reducible exact zz) | (with_reducible exact zy (by omega)) | (with_reducible exact zx (by assumption) (by omega)) | (simp only [z8] at * <;> omega) | (simp only [z7, z6, z5, GS.nil_len, GS.some_l, List.length_set, List.length_append, List.length_cons, List.length_nil] at * <;> first | with_reducible assumption | omega) | (simp only [z7, z6, z5, GS.nil_len, GS.some_l, List.length_set, List.length_append, List.length_cons, List.length_nil, z8] at * <;> first | with_reducible assumption | omega) | (simp at * <;> omega)) (by first | assumption | omega) (by first | assumption | omega) (by first | assumption | omega | (with_reducible exact zc) | (with_reducible exact Nat.le_trans zq (by omega)) | (with_reducible exact Nat.le_trans zo (by omega)) | (with_reducible exact Nat.le_trans zp (by omega)) | (with_reducible exact zz) | (with_reducible exact zy (by omega)) | (with_reducible exact zx (by assumption) (by omega)) | (simp only [z8] at * <;> omega) | (simp only [z7, z6, z5, GS.nil_len, GS.some_l, List.length_set, List.length_append, List.length_cons, List.length_nil] at * <;> first | with_reducible assumption | omega) | (simp only [z7, z6, z5, GS.nil_len, GS.some_l, List.length_set, List.length_append, List.length_cons, List.length_nil, z8] at * <;> first | with_reducible assumption | omega) | (simp at * <;> omega)) (by first | assumption | omega)
    | false =>
      exact ih (i5p1 + 1) (by omega) hN5p1 (by first | assumption | omega) (by first | assumption | omega) (by first | assumption | omega)


def sd20097 (n : Int) (e : S_Estate) (low : Int) (high : Int) (i1 : Nat) (q1_0 : Int) (va1_0 : List Int) : St := ⟨30, [(0, .yld 4), (1, .ptr (I n)), (3, I ((i1 : Nat) : Int)), (4, .sl true [] 0 none), (7, I q1_0), (8, I ((i1 : Nat) : Int)), (11, I n), (12, I 0)], [(0, ⟨[.fn (.func 73) [] [.ptr (.agg [.sl e.items.nl (e.items.l.map S_Item.D) (zsl e.items.nl 4) none, I e.whole.lo, I e.whole.hi]), .ptr (I low), .ptr (I high)]], 1, false⟩), (1, ⟨[.fn (.func 99) [] [.ptr (.agg [.sl e.items.nl (e.items.l.map S_Item.D) (zsl e.items.nl 4) none, I e.whole.lo, I e.whole.hi])]], 1, false⟩), (2, ⟨[.lsl 5 0 va1_0.length 1 none], 1, false⟩), (3, ⟨[B true], 1, false⟩), (5, ⟨va1_0.map I, 1, false⟩)], 6, 5⟩

def sd20103 (n : Int) (e : S_Estate) (low : Int) (high : Int) (i1 : Nat) (q1_0 : Int) (i5 : Nat) (va5_0 : List Int) (va5_1 : List Int) : St := ⟨30, [(13, B false), (0, .yld 4), (1, .ptr (I n)), (3, I ((i1 : Nat) : Int)), (4, .lsl 5 0 va5_0.length 1 none), (7, I q1_0), (8, I ((i1 : Nat) : Int)), (11, I n), (12, I ((i5 : Nat) : Int))], [(0, ⟨[.fn (.func 73) [] [.ptr (.agg [.sl e.items.nl (e.items.l.map S_Item.D) (zsl e.items.nl 4) none, I e.whole.lo, I e.whole.hi]), .ptr (I low), .ptr (I high)]], 1, false⟩), (1, ⟨[.fn (.func 99) [] [.ptr (.agg [.sl e.items.nl (e.items.l.map S_Item.D) (zsl e.items.nl 4) none, I e.whole.lo, I e.whole.hi])]], 1, false⟩), (2, ⟨[.lsl 6 0 va5_1.length 1 none], 1, false⟩), (3, ⟨[B true], 1, false⟩), (5, ⟨va5_0.map I, 1, false⟩), (6, ⟨va5_1.map I, 1, false⟩)], 7, 5⟩

noncomputable def lp103_1 : Code := subC [1, 0, 0] (bodyC Tryz.f103)

def sd20096 (n : Int) (e : S_Estate) (low : Int) (high : Int) (i1 : Nat) (q1_0 : Int) (va1_0 : List Int) : St := ⟨30, [(12, I 0), (11, I n), (4, .sl true [] 0 none), (3, I ((i1 : Nat) : Int)), (10, I ((i1 : Nat) : Int)), (9, B true), (0, .yld 4), (1, .ptr (I n)), (7, I q1_0), (8, I ((i1 : Nat) : Int))], [(0, ⟨[.fn (.func 73) [] [.ptr (.agg [.sl e.items.nl (e.items.l.map S_Item.D) (zsl e.items.nl 4) none, I e.whole.lo, I e.whole.hi]), .ptr (I low), .ptr (I high)]], 1, false⟩), (1, ⟨[.fn (.func 99) [] [.ptr (.agg [.sl e.items.nl (e.items.l.map S_Item.D) (zsl e.items.nl 4) none, I e.whole.lo, I e.whole.hi])]], 1, false⟩), (2, ⟨[.lsl 5 0 va1_0.length 1 none], 1, false⟩), (3, ⟨[B true], 1, false⟩), (5, ⟨va1_0.map I, 1, false⟩)], 6, 5⟩

def sd20108 (n : Int) (e : S_Estate) (low : Int) (high : Int) (i1 : Nat) (q1_0 : Int) (i5 : Nat) (va5_0 : List Int) (va5_1 : List Int) : St := ⟨30, [(8, I ((i1 + 1 : Nat) : Int)), (29, I ((i1 + 1 : Nat) : Int)), (28, B false), (27, B true), (26, .lsl 5 0 va5_0.length 1 none), (25, .yld 4), (13, B false), (0, .yld 4), (1, .ptr (I n)), (3, I ((i1 : Nat) : Int)), (4, .lsl 5 0 va5_0.length 1 none), (7, I q1_0), (8, I ((i1 : Nat) : Int)), (11, I n), (12, I ((i5 : Nat) : Int))], [(0, ⟨[.fn (.func 73) [] [.ptr (.agg [.sl e.items.nl (e.items.l.map S_Item.D) (zsl e.items.nl 4) none, I e.whole.lo, I e.whole.hi]), .ptr (I low), .ptr (I high)]], 1, false⟩), (1, ⟨[.fn (.func 99) [] [.ptr (.agg [.sl e.items.nl (e.items.l.map S_Item.D) (zsl e.items.nl 4) none, I e.whole.lo, I e.whole.hi])]], 1, false⟩), (2, ⟨[.lsl 5 0 va5_0.length 1 none], 1, false⟩), (3, ⟨[B true], 1, false⟩), (5, ⟨va5_0.map I, 1, false⟩), (6, ⟨va5_1.map I, 1, false⟩)], 7, 5⟩

def sd20109 (n : Int) (e : S_Estate) (low : Int) (high : Int) (i1 : Nat) (q1_0 : Int) (i5 : Nat) (va5_0 : List Int) (va5_1 : List Int) : St := ⟨30, [(8, I ((i1 + 1 : Nat) : Int)), (29, I ((i1 + 1 : Nat) : Int)), (28, B false), (27, B true), (26, .lsl 5 0 va5_0.length 1 none), (25, .yld 4), (13, B false), (0, .yld 4), (1, .ptr (I n)), (3, I ((i1 : Nat) : Int)), (4, .lsl 5 0 va5_0.length 1 none), (7, I q1_0), (8, I ((i1 : Nat) : Int)), (11, I n), (12, I ((i5 : Nat) : Int))], [(0, ⟨[.fn (.func 73) [] [.ptr (.agg [.sl e.items.nl (e.items.l.map S_Item.D) (zsl e.items.nl 4) none, I e.whole.lo, I e.whole.hi]), .ptr (I low), .ptr (I high)]], 1, false⟩), (1, ⟨[.fn (.func 99) [] [.ptr (.agg [.sl e.items.nl (e.items.l.map S_Item.D) (zsl e.items.nl 4) none, I e.whole.lo, I e.whole.hi])]], 1, false⟩), (2, ⟨[.lsl 6 0 va5_1.length 1 none], 1, false⟩), (3, ⟨[B true], 1, false⟩), (5, ⟨va5_0.map I, 1, false⟩), (6, ⟨va5_1.map I, 1, false⟩)], 7, 5⟩

def sd20106 (n : Int) (e : S_Estate) (low : Int) (high : Int) (i1 : Nat) (q1_0 : Int) (v1_0 : Bool) (i5p1 : Nat) (va5p1_0 : List Int) : St := ⟨30, [(13, B false), (0, .yld 4), (1, .ptr (I n)), (3, I ((i1 : Nat) : Int)), (4, .lsl 5 0 va5p1_0.length 1 none), (7, I q1_0), (8, I ((i1 : Nat) : Int)), (11, I n), (12, I ((i5p1 : Nat) : Int))], [(0, ⟨[.fn (.func 73) [] [.ptr (.agg [.sl e.items.nl (e.items.l.map S_Item.D) (zsl e.items.nl 4) none, I e.whole.lo, I e.whole.hi]), .ptr (I low), .ptr (I high)]], 1, false⟩), (1, ⟨[.fn (.func 99) [] [.ptr (.agg [.sl e.items.nl (e.items.l.map S_Item.D) (zsl e.items.nl 4) none, I e.whole.lo, I e.whole.hi])]], 1, false⟩), (2, ⟨[.sl true [] 0 none], 1, false⟩), (3, ⟨[B v1_0], 1, false⟩), (5, ⟨va5p1_0.map I, 1, false⟩)], 6, 5⟩

def sd20107 (n : Int) (e : S_Estate) (low : Int) (high : Int) (i1 : Nat) (q1_0 : Int) (v1_0 : Bool) (i5p1 : Nat) : St := ⟨30, [(13, B false), (0, .yld 4), (1, .ptr (I n)), (3, I ((i1 : Nat) : Int)), (4, .sl true [] 0 none), (7, I q1_0), (8, I ((i1 : Nat) : Int)), (11, I n), (12, I ((i5p1 : Nat) : Int))], [(0, ⟨[.fn (.func 73) [] [.ptr (.agg [.sl e.items.nl (e.items.l.map S_Item.D) (zsl e.items.nl 4) none, I e.whole.lo, I e.whole.hi]), .ptr (I low), .ptr (I high)]], 1, false⟩), (1, ⟨[.fn (.func 99) [] [.ptr (.agg [.sl e.items.nl (e.items.l.map S_Item.D) (zsl e.items.nl 4) none, I e.whole.lo, I e.whole.hi])]], 1, false⟩), (2, ⟨[.sl true [] 0 none], 1, false⟩), (3, ⟨[B v1_0], 1, false⟩)], 5, 5⟩

def sd20110 (n : Int) (e : S_Estate) (low : Int) (high : Int) (i1 : Nat) (q1_0 : Int) (i5p1 : Nat) (va5p1_0 : List Int) : St := ⟨30, [(8, I ((i1 + 1 : Nat) : Int)), (29, I ((i1 + 1 : Nat) : Int)), (28, B false), (27, B true), (26, .lsl 5 0 va5p1_0.length 1 none), (25, .yld 4), (13, B false), (0, .yld 4), (1, .ptr (I n)), (3, I ((i1 : Nat) : Int)), (4, .lsl 5 0 va5p1_0.length 1 none), (7, I q1_0), (8, I ((i1 : Nat) : Int)), (11, I n), (12, I ((i5p1 : Nat) : Int))], [(0, ⟨[.fn (.func 73) [] [.ptr (.agg [.sl e.items.nl (e.items.l.map S_Item.D) (zsl e.items.nl 4) none, I e.whole.lo, I e.whole.hi]), .ptr (I low), .ptr (I high)]], 1, false⟩), (1, ⟨[.fn (.func 99) [] [.ptr (.agg [.sl e.items.nl (e.items.l.map S_Item.D) (zsl e.items.nl 4) none, I e.whole.lo, I e.whole.hi])]], 1, false⟩), (2, ⟨[.lsl 5 0 va5p1_0.length 1 none], 1, false⟩), (3, ⟨[B true], 1, false⟩), (5, ⟨va5p1_0.map I, 1, false⟩)], 6, 5⟩

def sd20111 (n : Int) (e : S_Estate) (low : Int) (high : Int) (i1 : Nat) (q1_0 : Int) (v1_0 : Bool) (i5p1 : Nat) (va5p1_0 : List Int) : St := ⟨30, [(8, I ((i1 + 1 : Nat) : Int)), (29, I ((i1 + 1 : Nat) : Int)), (28, B false), (27, B true), (26, .lsl 5 0 va5p1_0.length 1 none), (25, .yld 4), (13, B false), (0, .yld 4), (1, .ptr (I n)), (3, I ((i1 : Nat) : Int)), (4, .lsl 5 0 va5p1_0.length 1 none), (7, I q1_0), (8, I ((i1 : Nat) : Int)), (11, I n), (12, I ((i5p1 : Nat) : Int))], [(0, ⟨[.fn (.func 73) [] [.ptr (.agg [.sl e.items.nl (e.items.l.map S_Item.D) (zsl e.items.nl 4) none, I e.whole.lo, I e.whole.hi]), .ptr (I low), .ptr (I high)]], 1, false⟩), (1, ⟨[.fn (.func 99) [] [.ptr (.agg [.sl e.items.nl (e.items.l.map S_Item.D) (zsl e.items.nl 4) none, I e.whole.lo, I e.whole.hi])]], 1, false⟩), (2, ⟨[.sl true [] 0 none], 1, false⟩), (3, ⟨[B v1_0], 1, false⟩), (5, ⟨va5p1_0.map I, 1, false⟩)], 6, 5⟩

inductive LR_orders_lists_1_1 where
  | x0 (i1 : Nat) (va1_0 : List Int)
  | x1 (i1 : Nat) (v1_0 : Bool)
instance : Inhabited LR_orders_lists_1_1 := ⟨.x0 default default⟩
def zX (n : Int) (e : S_Estate) (low : Int) (high : Int) : Nat → Nat → (List Int) → LR_orders_lists_1_1
  | 0, i1, va1_0 => .x0 i1 va1_0
  | rest1 + 1, i1, va1_0 =>
    match zT va1_0 ((i1 : Nat) : Int) (n - 0).toNat 0 with
    | .x0 i5 va5_0 va5_1 =>
      bif decide ((zv (GS.some va5_0) (GS.some va5_1) e) < 0) then
        bif (zm (GS.some va5_0) e low high) then
          zX n e low high rest1 (i1 + 1) va5_0
        else
          zX n e low high rest1 (i1 + 1) va5_1
      else
        zX n e low high rest1 (i1 + 1) va5_1
    | .x1 _ =>
      default
def zK (n : Int) (e : S_Estate) (low : Int) (high : Int) : Nat → Nat → Bool → LR_orders_lists_1_1
  | 0, i1, v1_0 => .x1 i1 v1_0
  | rest1 + 1, i1, v1_0 =>
    match y0 ((i1 : Nat) : Int) (n - 0).toNat 0 with
    | .x0 i5p1 va5p1_0 =>
      bif v1_0 then
        bif decide ((zv (GS.some va5p1_0) GS.nil e) < 0) then
          bif (zm (GS.some va5p1_0) e low high) then
            zX n e low high rest1 (i1 + 1) va5p1_0
          else
            zK n e low high rest1 (i1 + 1) v1_0
        else
          zK n e low high rest1 (i1 + 1) v1_0
      else
        bif (zm (GS.some va5p1_0) e low high) then
          zX n e low high rest1 (i1 + 1) va5p1_0
        else
          zK n e low high rest1 (i1 + 1) v1_0
    | .x1 i5p1 =>
      bif v1_0 then
        bif decide ((zv GS.nil GS.nil e) < 0) then
          bif (zm GS.nil e low high) then
            zK n e low high rest1 (i1 + 1) true
          else
            zK n e low high rest1 (i1 + 1) v1_0
        else
          zK n e low high rest1 (i1 + 1) v1_0
      else
        bif (zm GS.nil e low high) then
          zK n e low high rest1 (i1 + 1) true
        else
          zK n e low high rest1 (i1 + 1) v1_0
def lr_orders_lists_1_1 (n : Int) (e : S_Estate) (low : Int) (high : Int) (q1_0 : Int) : LR_orders_lists_1_1 → Exit × St × Option Code
  | .x0 i1 va1_0 => ((.exit 0), ⟨30, [(9, B false), (0, .yld 4), (1, .ptr (I n)), (7, I q1_0), (8, I ((i1 : Nat) : Int))], [(0, ⟨[.fn (.func 73) [] [.ptr (.agg [.sl e.items.nl (e.items.l.map S_Item.D) (zsl e.items.nl 4) none, I e.whole.lo, I e.whole.hi]), .ptr (I low), .ptr (I high)]], 1, false⟩), (1, ⟨[.fn (.func 99) [] [.ptr (.agg [.sl e.items.nl (e.items.l.map S_Item.D) (zsl e.items.nl 4) none, I e.whole.lo, I e.whole.hi])]], 1, false⟩), (2, ⟨[.lsl 5 0 va1_0.length 1 none], 1, false⟩), (3, ⟨[B true], 1, false⟩), (5, ⟨va1_0.map I, 1, false⟩)], 6, 5⟩, none)
  | .x1 i1 v1_0 => ((.exit 0), ⟨30, [(9, B false), (0, .yld 4), (1, .ptr (I n)), (7, I q1_0), (8, I ((i1 : Nat) : Int))], [(0, ⟨[.fn (.func 73) [] [.ptr (.agg [.sl e.items.nl (e.items.l.map S_Item.D) (zsl e.items.nl 4) none, I e.whole.lo, I e.whole.hi]), .ptr (I low), .ptr (I high)]], 1, false⟩), (1, ⟨[.fn (.func 99) [] [.ptr (.agg [.sl e.items.nl (e.items.l.map S_Item.D) (zsl e.items.nl 4) none, I e.whole.lo, I e.whole.hi])]], 1, false⟩), (2, ⟨[.sl true [] 0 none], 1, false⟩), (3, ⟨[B v1_0], 1, false⟩)], 5, 5⟩, none)
def iv_orders_lists_1_1 (n : Int) (e : S_Estate) (low : Int) (high : Int) (q1_0 : Int) : LR_orders_lists_1_1 → Prop
  | .x0 i1 va1_0 => (∀ i ∈ va1_0, 0 ≤ i ∧ i < ((e.items.l.length : Nat) : Int)) ∧ (va1_0.length ≤ 12)
  | .x1 i1 v1_0 => True
def orders_lists_1_1a_c_o1 (n : Int) (e : S_Estate) (low : Int) (high : Int) (i1 : Nat) (q1_0 : Int) (i5 : Nat) (va5_0 : List Int) (va1_0 : List Int) (va5_1 : List Int) : List Ora := [.dec true, .gloopY (sd20097 n e low high i1 q1_0 va1_0) (.exit 2) (sd20103 n e low high i1 q1_0 i5 va5_0 va5_1) none, .dec true, .pureS (I (zv (GS.some va5_0) (GS.some va5_1) e)) true [(5, .sl false (va5_0.map I) 1 none, [5]), (6, .sl false (va5_1.map I) 1 none, [6])]]
theorem lp_orders_lists_1_1a (n : Int) (e : S_Estate) (low : Int) (high : Int) (q1_0 : Int) : ∀ (rest1 : Nat) (i1 : Nat) (va1_0 : List Int) (hk1 : (q1_0 - ((i1 : Nat) : Int)).toNat = rest1) (hN1 : q1_0 ≤ 9223372036854775807) (hm1_va1_0 : ∀ i ∈ va1_0, 0 ≤ i ∧ i < ((e.items.l.length : Nat) : Int)) (hz1_va1_0 : va1_0.length ≤ 12) (hx1 : 1 ≤ i1) (hq1 : q1_0 = w64 (1 * 2 ^ (min (n).toNat 64))) (hn : n = ((e.items.l.length : Nat) : Int)) (hle : e.items.l.length ≤ 12), (lim cfg).loopY (rg20083 n e low high) 103 lp103_1 ⟨30, [(0, .yld 4), (1, .ptr (I n)), (7, I q1_0), (8, I ((i1 : Nat) : Int))], [(0, ⟨[.fn (.func 73) [] [.ptr (.agg [.sl e.items.nl (e.items.l.map S_Item.D) (zsl e.items.nl 4) none, I e.whole.lo, I e.whole.hi]), .ptr (I low), .ptr (I high)]], 1, false⟩), (1, ⟨[.fn (.func 99) [] [.ptr (.agg [.sl e.items.nl (e.items.l.map S_Item.D) (zsl e.items.nl 4) none, I e.whole.lo, I e.whole.hi])]], 1, false⟩), (2, ⟨[.lsl 5 0 va1_0.length 1 none], 1, false⟩), (3, ⟨[B true], 1, false⟩), (5, ⟨va1_0.map I, 1, false⟩)], 6, 5⟩ = some (lr_orders_lists_1_1 n e low high q1_0 (zX n e low high rest1 i1 va1_0)) := by
  intro rest1
  induction rest1 with
  | zero =>
    intro i1 va1_0 hk1 hN1 hm1_va1_0 hz1_va1_0 hx1 hq1 hn hle
    unfold zX
    exact po_lastY [.dec false] (And.intro (ct_no hk1) trivial) (by kernel_rfl)
  | succ rest1 ih =>
    intro i1 va1_0 hk1 hN1 hm1_va1_0 hz1_va1_0 hx1 hq1 hn hle
    have hlt1 := of_decide_eq_true (ct_at hk1)
    unfold zX
    have p1 := (gc_of (C := cfg) (f := 103) (a := lp103_5) (ks := [0, 1, 3, 4, 7, 8, 11, 12]) (st := (sd20096 n e low high i1 q1_0 va1_0)) (st1 := (sd20097 n e low high i1 q1_0 va1_0)) (by kernel_rfl) (by (simp only [sd20096, sd20097, go_sem, Nat.reduceAdd, Nat.reduceEqDiff, Nat.reduceLT, Nat.reduceLeDiff, bI2, zU.idsL, zU.renL, zU.snapAll, zg.idsL, zg.renL, zg.snapAll]) <;> rfl))
    cases h25 : zT va1_0 ((i1 : Nat) : Int) (n - 0).toNat 0 with
    | x0 i5 va5_0 va5_1 =>
      try dsimp only
      have hv_h25 := ivt_orders_lists_1_5 n e low high q1_0 va1_0 ((i1 : Nat) : Int) (n - 0).toNat 0 (by omega) (by first | assumption | omega) (by first | assumption | omega) (by first | assumption | omega) (by first | assumption | omega) (by first | assumption | omega) (by first | assumption | omega)
      rw [h25] at hv_h25
      obtain ⟨hv_h25_0, hv_h25_1, hv_h25_2, hv_h25_3, hv_h25_4⟩ := hv_h25
      try dsimp only [y6] at hv_h25_0
      try dsimp only [y6] at hv_h25_1
      try dsimp only [y6] at hv_h25_2
      try dsimp only [y6] at hv_h25_3
      try dsimp only [y6] at hv_h25_4
      have p2 := (po_lrY (q := lr_orders_lists_1_5 n e low high q1_0 va1_0 ((i1 : Nat) : Int)) (lp_orders_lists_1_5 n e low high q1_0 va1_0 ((i1 : Nat) : Int) (n - 0).toNat 0 (by omega) (by first | assumption | omega) (by first | assumption | omega) (by first | assumption | omega) (by first | assumption | omega) (by first | assumption | omega) (by first | assumption | omega)) h25)
      have p3 := (And.intro (show flat fuelD (I (zv (GS.some va5_0) (GS.some va5_1) e)) = true from (by kernel_rfl)) (And.intro (And.intro (snap_row (gO := zD [(0, ⟨[.fn (.func 73) [] [.ptr (.agg [.sl e.items.nl (e.items.l.map S_Item.D) (zsl e.items.nl 4) none, I e.whole.lo, I e.whole.hi]), .ptr (I low), .ptr (I high)]], 1, false⟩), (1, ⟨[.fn (.func 99) [] [.ptr (.agg [.sl e.items.nl (e.items.l.map S_Item.D) (zsl e.items.nl 4) none, I e.whole.lo, I e.whole.hi])]], 1, false⟩), (2, ⟨[.lsl 6 0 va5_1.length 1 none], 1, false⟩), (3, ⟨[B true], 1, false⟩), (5, ⟨va5_0.map I, 1, false⟩), (6, ⟨va5_1.map I, 1, false⟩)]) (o := 6) (len := va5_1.length) (cap := none) (fz := false) zU va5_1 (by kernel_rfl) (by first | assumption | omega)) (And.intro (snap_row (gO := zD [(0, ⟨[.fn (.func 73) [] [.ptr (.agg [.sl e.items.nl (e.items.l.map S_Item.D) (zsl e.items.nl 4) none, I e.whole.lo, I e.whole.hi]), .ptr (I low), .ptr (I high)]], 1, false⟩), (1, ⟨[.fn (.func 99) [] [.ptr (.agg [.sl e.items.nl (e.items.l.map S_Item.D) (zsl e.items.nl 4) none, I e.whole.lo, I e.whole.hi])]], 1, false⟩), (2, ⟨[.lsl 6 0 va5_1.length 1 none], 1, false⟩), (3, ⟨[B true], 1, false⟩), (5, ⟨va5_0.map I, 1, false⟩), (6, ⟨va5_1.map I, 1, false⟩)]) (o := 5) (len := va5_0.length) (cap := none) (fz := false) zU va5_0 (by kernel_rfl) (by first | assumption | omega)) trivial)) (T_orders_cheapest_1 (GS.some va5_0) (GS.some va5_1) e (by first | assumption | omega) (by first | assumption | omega) (by first | assumption | omega | (with_reducible exact zc) | (with_reducible exact Nat.le_trans zq (by omega)) | (with_reducible exact Nat.le_trans zo (by omega)) | (with_reducible exact Nat.le_trans zp (by omega)) | (with_reducible exact zz) | (with_reducible exact zy (by omega)) | (with_reducible exact zx (by assumption) (by omega)) | (simp only [z8] at * <;> omega) | (simp only [z7, z6, z5, GS.nil_len, GS.some_l, List.length_set, List.length_append, List.length_cons, List.length_nil] at * <;> first | with_reducible assumption | omega) | (simp only [z7, z6, z5, GS.nil_len, GS.some_l, List.length_set, List.length_append, List.length_cons, List.length_nil, z8] at * <;> first | with_reducible assumption | omega) | (simp at * <;> omega)) (by first | assumption | omega | (with_reducible exact zc) | (with_reducible exact Nat.le_trans zq (by omega)) | (with_reducible exact Nat.le_trans zo (by omega)) | (with_reducible exact Nat.le_trans zp (by omega)) | (with_reducible exact zz) | (with_reducible exact zy (by omega)) | (with_reducible exact zx (by assumption) (by omega)) | (simp only [z8] at * <;> omega) | (simp only [z7, z6, z5, GS.nil_len, GS.some_l, List.length_set, List.length_append, List.length_cons, List.length_nil] at * <;> first | with_reducible assumption | omega) | (simp only [z7, z6, z5, GS.nil_len, GS.some_l, List.length_set, List.length_append, List.length_cons, List.length_nil, z8] at * <;> first | with_reducible assumption | omega) | (simp at * <;> omega)))))
      cases h26 : decide ((zv (GS.some va5_0) (GS.some va5_1) e) < 0) with
      | true =>
        have g26 := of_decide_eq_true h26
        have p4 := (And.intro (show flat fuelD (B (zm (GS.some va5_0) e low high)) = true from (by kernel_rfl)) (And.intro (And.intro (snap_row (gO := zD [(0, ⟨[.fn (.func 73) [] [.ptr (.agg [.sl e.items.nl (e.items.l.map S_Item.D) (zsl e.items.nl 4) none, I e.whole.lo, I e.whole.hi]), .ptr (I low), .ptr (I high)]], 1, false⟩), (1, ⟨[.fn (.func 99) [] [.ptr (.agg [.sl e.items.nl (e.items.l.map S_Item.D) (zsl e.items.nl 4) none, I e.whole.lo, I e.whole.hi])]], 1, false⟩), (2, ⟨[.lsl 6 0 va5_1.length 1 none], 1, false⟩), (3, ⟨[B true], 1, false⟩), (5, ⟨va5_0.map I, 1, false⟩), (6, ⟨va5_1.map I, 1, false⟩)]) (o := 5) (len := va5_0.length) (cap := none) (fz := false) zU va5_0 (by kernel_rfl) (by first | assumption | omega)) trivial) (T_orders_Cheapest_1 (GS.some va5_0) e low high (by first | assumption | omega) (by first | assumption | omega | (with_reducible exact zc) | (with_reducible exact Nat.le_trans zq (by omega)) | (with_reducible exact Nat.le_trans zo (by omega)) | (with_reducible exact Nat.le_trans zp (by omega)) | (with_reducible exact zz) | (with_reducible exact zy (by omega)) | (with_reducible exact zx (by assumption) (by omega)) | (simp only [z8] at * <;> omega) | (simp only [z7, z6, z5, GS.nil_len, GS.some_l, List.length_set, List.length_append, List.length_cons, List.length_nil] at * <;> first | with_reducible assumption | omega) | (simp only [z7, z6, z5, GS.nil_len, GS.some_l, List.length_set, List.length_append, List.length_cons, List.length_nil, z8] at * <;> first | with_reducible assumption | omega) | (simp at * <;> omega)) (by first | assumption | omega))))
        cases h27 : (zm (GS.some va5_0) e low high) with
        | true =>
          exact po_turnY' (ks := [0, 1, 7, 8]) (st' := (sd20108 n e low high i1 q1_0 i5 va5_0 va5_1)) ((orders_lists_1_1a_c_o1 n e low high i1 q1_0 i5 va5_0 va1_0 va5_1) ++ [.dec true, .pureS (B (zm (GS.some va5_0) e low high)) true [(5, .sl false (va5_0.map I) 1 none, [5])], .dec true, .rw 29 (I ((i1 + 1 : Nat) : Int))]) (And.intro (yb (i := i1) (by first | assumption | omega)) (And.intro h27 (And.intro p4 (And.intro h26 (And.intro p3 (And.intro (Eq.refl true) (And.intro p2 (And.intro p1 (And.intro (ct_at hk1) trivial))))))))) (by kernel_rfl) (by (simp only [sd20108, go_sem, Nat.reduceAdd, Nat.reduceEqDiff, Nat.reduceLT, Nat.reduceLeDiff, bI2, zU.idsL, zU.renL, zU.snapAll, zg.idsL, zg.renL, zg.snapAll]) <;> rfl) (ih (i1 + 1) va5_0 (by omega) hN1 (by first | assumption | omega) (by first | assumption | omega) (by first | assumption | omega) (by first | assumption | omega) (by first | assumption | omega) (by first | assumption | omega)) (by kernel_rfl)
        | false =>
          exact po_turnY' (ks := [0, 1, 7, 8]) (st' := (sd20109 n e low high i1 q1_0 i5 va5_0 va5_1)) ((orders_lists_1_1a_c_o1 n e low high i1 q1_0 i5 va5_0 va1_0 va5_1) ++ [.dec true, .pureS (B (zm (GS.some va5_0) e low high)) true [(5, .sl false (va5_0.map I) 1 none, [5])], .dec false, .rw 29 (I ((i1 + 1 : Nat) : Int))]) (And.intro (yb (i := i1) (by first | assumption | omega)) (And.intro h27 (And.intro p4 (And.intro h26 (And.intro p3 (And.intro (Eq.refl true) (And.intro p2 (And.intro p1 (And.intro (ct_at hk1) trivial))))))))) (by kernel_rfl) (by (simp only [sd20109, go_sem, Nat.reduceAdd, Nat.reduceEqDiff, Nat.reduceLT, Nat.reduceLeDiff, bI2, zU.idsL, zU.renL, zU.snapAll, zg.idsL, zg.renL, zg.snapAll]) <;> rfl) (ih (i1 + 1) va5_1 (by omega) hN1 (by first | assumption | omega) (by first | assumption | omega) (by first | assumption | omega) (by first | assumption | omega) (by first | assumption | omega) (by first | assumption | omega)) (by kernel_rfl)
      | false =>
        have g26 := of_decide_eq_false h26
        exact po_turnY' (ks := [0, 1, 7, 8]) (st' := (sd20109 n e low high i1 q1_0 i5 va5_0 va5_1)) ((orders_lists_1_1a_c_o1 n e low high i1 q1_0 i5 va5_0 va1_0 va5_1) ++ [.dec false, .rw 29 (I ((i1 + 1 : Nat) : Int))]) (And.intro (yb (i := i1) (by first | assumption | omega)) (And.intro h26 (And.intro p3 (And.intro (Eq.refl true) (And.intro p2 (And.intro p1 (And.intro (ct_at hk1) trivial))))))) (by kernel_rfl) (by (simp only [sd20109, go_sem, Nat.reduceAdd, Nat.reduceEqDiff, Nat.reduceLT, Nat.reduceLeDiff, bI2, zU.idsL, zU.renL, zU.snapAll, zg.idsL, zg.renL, zg.snapAll]) <;> rfl) (ih (i1 + 1) va5_1 (by omega) hN1 (by first | assumption | omega) (by first | assumption | omega) (by first | assumption | omega) (by first | assumption | omega) (by first | assumption | omega) (by first | assumption | omega)) (by kernel_rfl)
    | x1 _ =>
      exact absurd hx1 (nz_orders_lists_1_5 va1_0 hn hle (by rw [← hq1]; exact hlt1) h25)
theorem ivt_orders_lists_1_1a (n : Int) (e : S_Estate) (low : Int) (high : Int) (q1_0 : Int) : ∀ (rest1 : Nat) (i1 : Nat) (va1_0 : List Int) (hk1 : (q1_0 - ((i1 : Nat) : Int)).toNat = rest1) (hN1 : q1_0 ≤ 9223372036854775807) (hm1_va1_0 : ∀ i ∈ va1_0, 0 ≤ i ∧ i < ((e.items.l.length : Nat) : Int)) (hz1_va1_0 : va1_0.length ≤ 12) (hx1 : 1 ≤ i1) (hq1 : q1_0 = w64 (1 * 2 ^ (min (n).toNat 64))) (hn : n = ((e.items.l.length : Nat) : Int)) (hle : e.items.l.length ≤ 12), iv_orders_lists_1_1 n e low high q1_0 (zX n e low high rest1 i1 va1_0) := by
  intro rest1
  induction rest1 with
  | zero =>
    intro i1 va1_0 hk1 hN1 hm1_va1_0 hz1_va1_0 hx1 hq1 hn hle
    unfold zX
    exact ⟨hm1_va1_0, hz1_va1_0⟩
  | succ rest1 ih =>
    intro i1 va1_0 hk1 hN1 hm1_va1_0 hz1_va1_0 hx1 hq1 hn hle
    have hlt1 := of_decide_eq_true (ct_at hk1)
    unfold zX
    cases h25 : zT va1_0 ((i1 : Nat) : Int) (n - 0).toNat 0 with
    | x0 i5 va5_0 va5_1 =>
      try dsimp only
      have hv_h25 := ivt_orders_lists_1_5 n e low high q1_0 va1_0 ((i1 : Nat) : Int) (n - 0).toNat 0 (by omega) (by first | assumption | omega) (by first | assumption | omega) (by first | assumption | omega) (by first | assumption | omega) (by first | assumption | omega) (by first | assumption | omega)
      rw [h25] at hv_h25
      obtain ⟨hv_h25_0, hv_h25_1, hv_h25_2, hv_h25_3, hv_h25_4⟩ := hv_h25
      try dsimp only [y6] at hv_h25_0
      try dsimp only [y6] at hv_h25_1
      try dsimp only [y6] at hv_h25_2
      try dsimp only [y6] at hv_h25_3
      try dsimp only [y6] at hv_h25_4
      cases h26 : decide ((zv (GS.some va5_0) (GS.some va5_1) e) < 0) with
      | true =>
        have g26 := of_decide_eq_true h26
        cases h27 : (zm (GS.some va5_0) e low high) with
        | true =>
          exact ih (i1 + 1) va5_0 (by omega) hN1 (by first | assumption | omega) (by first | assumption | omega) (by first | assumption | omega) (by first | assumption | omega) (by first | assumption | omega) (by first | assumption | omega)
        | false =>
          exact ih (i1 + 1) va5_1 (by omega) hN1 (by first | assumption | omega) (by first | assumption | omega) (by first | assumption | omega) (by first | assumption | omega) (by first | assumption | omega) (by first | assumption | omega)
      | false =>
        have g26 := of_decide_eq_false h26
        exact ih (i1 + 1) va5_1 (by omega) hN1 (by first | assumption | omega) (by first | assumption | omega) (by first | assumption | omega) (by first | assumption | omega) (by first | assumption | omega) (by first | assumption | omega)
    | x1 _ =>
      exact absurd hx1 (nz_orders_lists_1_5 va1_0 hn hle (by rw [← hq1]; exact hlt1) h25)
def orders_lists_1_1_c_o1 (n : Int) (e : S_Estate) (low : Int) (high : Int) (i1 : Nat) (q1_0 : Int) (v1_0 : Bool) (i5p1 : Nat) (va5p1_0 : List Int) : List Ora := [.dec true, .loopY (.exit 2) (sd20106 n e low high i1 q1_0 v1_0 i5p1 va5p1_0) none, .dec true, .pureS (I (zv (GS.some va5p1_0) GS.nil e)) true [(5, .sl false (va5p1_0.map I) 1 none, [5])]]
def orders_lists_1_1_c_o2 (n : Int) (e : S_Estate) (low : Int) (high : Int) (i1 : Nat) (q1_0 : Int) (v1_0 : Bool) (i5p1 : Nat) (va5p1_0 : List Int) : List Ora := [.dec true, .loopY (.exit 2) (sd20106 n e low high i1 q1_0 v1_0 i5p1 va5p1_0) none, .dec false, .pureS (B (zm (GS.some va5p1_0) e low high)) true [(5, .sl false (va5p1_0.map I) 1 none, [5])]]
def orders_lists_1_1_c_o3 (n : Int) (e : S_Estate) (low : Int) (high : Int) (i1 : Nat) (q1_0 : Int) (v1_0 : Bool) (i5p1 : Nat) : List Ora := [.dec true, .loopY (.exit 2) (sd20107 n e low high i1 q1_0 v1_0 i5p1) none, .dec true, .pure (I (zv GS.nil GS.nil e))]
def orders_lists_1_1_c_o4 (n : Int) (e : S_Estate) (low : Int) (high : Int) (i1 : Nat) (q1_0 : Int) (v1_0 : Bool) (i5p1 : Nat) : List Ora := [.dec true, .loopY (.exit 2) (sd20107 n e low high i1 q1_0 v1_0 i5p1) none, .dec false, .pure (B (zm GS.nil e low high))]
theorem lp_orders_lists_1_1 (n : Int) (e : S_Estate) (low : Int) (high : Int) (q1_0 : Int) : ∀ (rest1 : Nat) (i1 : Nat) (v1_0 : Bool) (hk1 : (q1_0 - ((i1 : Nat) : Int)).toNat = rest1) (hN1 : q1_0 ≤ 9223372036854775807) (hq1 : q1_0 = w64 (1 * 2 ^ (min (n).toNat 64))) (hn : n = ((e.items.l.length : Nat) : Int)) (hle : e.items.l.length ≤ 12), (lim cfg).loopY (rg20083 n e low high) 103 lp103_1 ⟨30, [(0, .yld 4), (1, .ptr (I n)), (7, I q1_0), (8, I ((i1 : Nat) : Int))], [(0, ⟨[.fn (.func 73) [] [.ptr (.agg [.sl e.items.nl (e.items.l.map S_Item.D) (zsl e.items.nl 4) none, I e.whole.lo, I e.whole.hi]), .ptr (I low), .ptr (I high)]], 1, false⟩), (1, ⟨[.fn (.func 99) [] [.ptr (.agg [.sl e.items.nl (e.items.l.map S_Item.D) (zsl e.items.nl 4) none, I e.whole.lo, I e.whole.hi])]], 1, false⟩), (2, ⟨[.sl true [] 0 none], 1, false⟩), (3, ⟨[B v1_0], 1, false⟩)], 5, 5⟩ = some (lr_orders_lists_1_1 n e low high q1_0 (zK n e low high rest1 i1 v1_0)) := by
  intro rest1
  induction rest1 with
  | zero =>
    intro i1 v1_0 hk1 hN1 hq1 hn hle
    unfold zK
    exact po_lastY [.dec false] (And.intro (ct_no hk1) trivial) (by kernel_rfl)
  | succ rest1 ih =>
    intro i1 v1_0 hk1 hN1 hq1 hn hle
    have hlt1 := of_decide_eq_true (ct_at hk1)
    unfold zK
    cases h32 : y0 ((i1 : Nat) : Int) (n - 0).toNat 0 with
    | x0 i5p1 va5p1_0 =>
      try dsimp only
      have hv_h32 := ivt_orders_lists_1_5p1 n e low high q1_0 v1_0 ((i1 : Nat) : Int) (n - 0).toNat 0 (by omega) (by first | assumption | omega) (by first | assumption | omega) (by first | assumption | omega) (by first | assumption | omega)
      rw [h32] at hv_h32
      obtain ⟨hv_h32_0, hv_h32_1, hv_h32_2⟩ := hv_h32
      try dsimp only [iv_orders_lists_1_5p1] at hv_h32_0
      try dsimp only [iv_orders_lists_1_5p1] at hv_h32_1
      try dsimp only [iv_orders_lists_1_5p1] at hv_h32_2
      have p1 := (po_lrY (q := lr_orders_lists_1_5p1 n e low high q1_0 v1_0 ((i1 : Nat) : Int)) (lp_orders_lists_1_5p1 n e low high q1_0 v1_0 ((i1 : Nat) : Int) (n - 0).toNat 0 (by omega) (by first | assumption | omega) (by first | assumption | omega) (by first | assumption | omega) (by first | assumption | omega)) h32)
      rcases Bool.eq_false_or_eq_true v1_0 with h33 | h33
      · rw [cond_t h33]
        have p2 := (And.intro (show flat fuelD (I (zv (GS.some va5p1_0) GS.nil e)) = true from (by kernel_rfl)) (And.intro (And.intro (snap_row (gO := zD [(0, ⟨[.fn (.func 73) [] [.ptr (.agg [.sl e.items.nl (e.items.l.map S_Item.D) (zsl e.items.nl 4) none, I e.whole.lo, I e.whole.hi]), .ptr (I low), .ptr (I high)]], 1, false⟩), (1, ⟨[.fn (.func 99) [] [.ptr (.agg [.sl e.items.nl (e.items.l.map S_Item.D) (zsl e.items.nl 4) none, I e.whole.lo, I e.whole.hi])]], 1, false⟩), (2, ⟨[.sl true [] 0 none], 1, false⟩), (3, ⟨[B v1_0], 1, false⟩), (5, ⟨va5p1_0.map I, 1, false⟩)]) (o := 5) (len := va5p1_0.length) (cap := none) (fz := false) zU va5p1_0 (by kernel_rfl) (by first | assumption | omega)) trivial) (T_orders_cheapest_1 (GS.some va5p1_0) GS.nil e (by first | assumption | omega) (by first | assumption | omega | (with_reducible exact zc) | (with_reducible exact Nat.le_trans zq (by omega)) | (with_reducible exact Nat.le_trans zo (by omega)) | (with_reducible exact Nat.le_trans zp (by omega)) | (with_reducible exact zz) | (with_reducible exact zy (by omega)) | (with_reducible exact zx (by assumption) (by omega)) | (simp only [z8] at * <;> omega) | (simp only [z7, z6, z5, GS.nil_len, GS.some_l, List.length_set, List.length_append, List.length_cons, List.length_nil] at * <;> first | with_reducible assumption | omega) | (simp only [z7, z6, z5, GS.nil_len, GS.some_l, List.length_set, List.length_append, List.length_cons, List.length_nil, z8] at * <;> first | with_reducible assumption | omega) | (simp at * <;> omega)) (by first | assumption | omega | (with_reducible exact zc) | (with_reducible exact Nat.le_trans zq (by omega)) | (with_reducible exact Nat.le_trans zo (by omega)) | (with_reducible exact Nat.le_trans zp (by omega)) | (with_reducible exact zz) | (with_reducible exact zy (by omega)) | (with_reducible exact zx (by assumption) (by omega)) | (simp only [z8] at * <;> omega) | (simp only [z7, z6, z5, GS.nil_len, GS.some_l, List.length_set, List.length_append, List.length_cons, List.length_nil] at * <;> first | with_reducible assumption | omega) | (simp only [z7, z6, z5, GS.nil_len, GS.some_l, List.length_set, List.length_append, List.length_cons, List.length_nil, z8] at * <;> first | with_reducible assumption | omega) | (simp at * <;> omega)) (by first | assumption | omega | (with_reducible exact zc) | (with_reducible exact Nat.le_trans zq (by omega)) | (with_reducible exact Nat.le_trans zo (by omega)) | (with_reducible exact Nat.le_trans zp (by omega)) | (with_reducible exact zz) | (with_reducible exact zy (by omega)) | (with_reducible exact zx (by assumption) (by omega)) | (simp only [z8] at * <;> omega) | (simp only [z7, z6, z5, GS.nil_len, GS.some_l, List.length_set, List.length_append, List.length_cons, List.length_nil] at * <;> first | with_reducible assumption | omega) | (simp only [z7, z6, z5, GS.nil_len, GS.some_l, List.length_set, List.length_append, List.length_cons, List.length_nil, z8] at * <;> first | with_reducible assumption | omega) | (simp at * <;> omega)))))
        cases h34 : decide ((zv (GS.some va5p1_0) GS.nil e) < 0) with
        | true =>
          have g34 := of_decide_eq_true h34
          have p3 := (And.intro (show flat fuelD (B (zm (GS.some va5p1_0) e low high)) = true from (by kernel_rfl)) (And.intro (And.intro (snap_row (gO := zD [(0, ⟨[.fn (.func 73) [] [.ptr (.agg [.sl e.items.nl (e.items.l.map S_Item.D) (zsl e.items.nl 4) none, I e.whole.lo, I e.whole.hi]), .ptr (I low), .ptr (I high)]], 1, false⟩), (1, ⟨[.fn (.func 99) [] [.ptr (.agg [.sl e.items.nl (e.items.l.map S_Item.D) (zsl e.items.nl 4) none, I e.whole.lo, I e.whole.hi])]], 1, false⟩), (2, ⟨[.sl true [] 0 none], 1, false⟩), (3, ⟨[B v1_0], 1, false⟩), (5, ⟨va5p1_0.map I, 1, false⟩)]) (o := 5) (len := va5p1_0.length) (cap := none) (fz := false) zU va5p1_0 (by kernel_rfl) (by first | assumption | omega)) trivial) (T_orders_Cheapest_1 (GS.some va5p1_0) e low high (by first | assumption | omega) (by first | assumption | omega | (with_reducible exact zc) | (with_reducible exact Nat.le_trans zq (by omega)) | (with_reducible exact Nat.le_trans zo (by omega)) | (with_reducible exact Nat.le_trans zp (by omega)) | (with_reducible exact zz) | (with_reducible exact zy (by omega)) | (with_reducible exact zx (by assumption) (by omega)) | (simp only [z8] at * <;> omega) | (simp only [z7, z6, z5, GS.nil_len, GS.some_l, List.length_set, List.length_append, List.length_cons, List.length_nil] at * <;> first | with_reducible assumption | omega) | (simp only [z7, z6, z5, GS.nil_len, GS.some_l, List.length_set, List.length_append, List.length_cons, List.length_nil, z8] at * <;> first | with_reducible assumption | omega) | (simp at * <;> omega)) (by first | assumption | omega))))
          cases h35 : (zm (GS.some va5p1_0) e low high) with
          | true =>
            exact po_turnY' (ks := [0, 1, 7, 8]) (st' := (sd20110 n e low high i1 q1_0 i5p1 va5p1_0)) ((orders_lists_1_1_c_o1 n e low high i1 q1_0 v1_0 i5p1 va5p1_0) ++ [.dec true, .pureS (B (zm (GS.some va5p1_0) e low high)) true [(5, .sl false (va5p1_0.map I) 1 none, [5])], .dec true, .rw 29 (I ((i1 + 1 : Nat) : Int))]) (And.intro (yb (i := i1) (by first | assumption | omega)) (And.intro h35 (And.intro p3 (And.intro h34 (And.intro p2 (And.intro h33 (And.intro p1 (And.intro (ct_at hk1) trivial)))))))) (by kernel_rfl) (by (simp only [sd20110, go_sem, Nat.reduceAdd, Nat.reduceEqDiff, Nat.reduceLT, Nat.reduceLeDiff, bI2, zU.idsL, zU.renL, zU.snapAll, zg.idsL, zg.renL, zg.snapAll]) <;> rfl) (lp_orders_lists_1_1a n e low high q1_0 _ (i1 + 1) va5p1_0 (by omega) hN1 (by first | assumption | omega) (by first | assumption | omega) (by first | assumption | omega) (by first | assumption | omega) (by first | assumption | omega) (by first | assumption | omega)) (by kernel_rfl)
          | false =>
            exact po_turnY' (ks := [0, 1, 7, 8]) (st' := (sd20111 n e low high i1 q1_0 v1_0 i5p1 va5p1_0)) ((orders_lists_1_1_c_o1 n e low high i1 q1_0 v1_0 i5p1 va5p1_0) ++ [.dec true, .pureS (B (zm (GS.some va5p1_0) e low high)) true [(5, .sl false (va5p1_0.map I) 1 none, [5])], .dec false, .rw 29 (I ((i1 + 1 : Nat) : Int))]) (And.intro (yb (i := i1) (by first | assumption | omega)) (And.intro h35 (And.intro p3 (And.intro h34 (And.intro p2 (And.intro h33 (And.intro p1 (And.intro (ct_at hk1) trivial)))))))) (by kernel_rfl) (by (simp only [sd20111, go_sem, Nat.reduceAdd, Nat.reduceEqDiff, Nat.reduceLT, Nat.reduceLeDiff, bI2, zU.idsL, zU.renL, zU.snapAll, zg.idsL, zg.renL, zg.snapAll]) <;> rfl) (ih (i1 + 1) v1_0 (by omega) hN1 (by first | assumption | omega) (by first | assumption | omega) (by first | assumption | omega)) (by kernel_rfl)
        | false =>
          have g34 := of_decide_eq_false h34
          exact po_turnY' (ks := [0, 1, 7, 8]) (st' := (sd20111 n e low high i1 q1_0 v1_0 i5p1 va5p1_0)) ((orders_lists_1_1_c_o1 n e low high i1 q1_0 v1_0 i5p1 va5p1_0) ++ [.dec false, .rw 29 (I ((i1 + 1 : Nat) : Int))]) (And.intro (yb (i := i1) (by first | assumption | omega)) (And.intro h34 (And.intro p2 (And.intro h33 (And.intro p1 (And.intro (ct_at hk1) trivial)))))) (by kernel_rfl) (by (simp only [sd20111, go_sem, Nat.reduceAdd, Nat.reduceEqDiff, Nat.reduceLT, Nat.reduceLeDiff, bI2, zU.idsL, zU.renL, zU.snapAll, zg.idsL, zg.renL, zg.snapAll]) <;> rfl) (ih (i1 + 1) v1_0 (by omega) hN1 (by first | assumption | omega) (by first | assumption | omega) (by first | assumption | omega)) (by kernel_rfl)
      · rw [cond_f h33]
        have p4 := (And.intro (show flat fuelD (B (zm (GS.some va5p1_0) e low high)) = true from (by kernel_rfl)) (And.intro (And.intro (snap_row (gO := zD [(0, ⟨[.fn (.func 73) [] [.ptr (.agg [.sl e.items.nl (e.items.l.map S_Item.D) (zsl e.items.nl 4) none, I e.whole.lo, I e.whole.hi]), .ptr (I low), .ptr (I high)]], 1, false⟩), (1, ⟨[.fn (.func 99) [] [.ptr (.agg [.sl e.items.nl (e.items.l.map S_Item.D) (zsl e.items.nl 4) none, I e.whole.lo, I e.whole.hi])]], 1, false⟩), (2, ⟨[.sl true [] 0 none], 1, false⟩), (3, ⟨[B v1_0], 1, false⟩), (5, ⟨va5p1_0.map I, 1, false⟩)]) (o := 5) (len := va5p1_0.length) (cap := none) (fz := false) zU va5p1_0 (by kernel_rfl) (by first | assumption | omega)) trivial) (T_orders_Cheapest_1 (GS.some va5p1_0) e low high (by first | assumption | omega) (by first | assumption | omega | (with_reducible exact zc) | (with_reducible exact Nat.le_trans zq (by omega)) | (with_reducible exact Nat.le_trans zo (by omega)) | (with_reducible exact Nat.le_trans zp (by omega)) | (with_reducible exact zz) | (with_reducible exact zy (by omega)) | (with_reducible exact zx (by assumption) (by omega)) | (simp only [z8] at * <;> omega) | (simp only [z7, z6, z5, GS.nil_len, GS.some_l, List.length_set, List.length_append, List.length_cons, List.length_nil] at * <;> first | with_reducible assumption | omega) | (simp only [z7, z6, z5, GS.nil_len, GS.some_l, List.length_set, List.length_append, List.length_cons, List.length_nil, z8] at * <;> first | with_reducible assumption | omega) | (simp at * <;> omega)) (by first | assumption | omega))))
        cases h36 : (zm (GS.some va5p1_0) e low high) with
        | true =>
          exact po_turnY' (ks := [0, 1, 7, 8]) (st' := (sd20110 n e low high i1 q1_0 i5p1 va5p1_0)) ((orders_lists_1_1_c_o2 n e low high i1 q1_0 v1_0 i5p1 va5p1_0) ++ [.dec true, .rw 29 (I ((i1 + 1 : Nat) : Int))]) (And.intro (yb (i := i1) (by first | assumption | omega)) (And.intro h36 (And.intro p4 (And.intro h33 (And.intro p1 (And.intro (ct_at hk1) trivial)))))) (by kernel_rfl) (by (simp only [sd20110, go_sem, Nat.reduceAdd, Nat.reduceEqDiff, Nat.reduceLT, Nat.reduceLeDiff, bI2, zU.idsL, zU.renL, zU.snapAll, zg.idsL, zg.renL, zg.snapAll]) <;> rfl) (lp_orders_lists_1_1a n e low high q1_0 _ (i1 + 1) va5p1_0 (by omega) hN1 (by first | assumption | omega) (by first | assumption | omega) (by first | assumption | omega) (by first | assumption | omega) (by first | assumption | omega) (by first | assumption | omega)) (by kernel_rfl)
        | false =>
          exact po_turnY' (ks := [0, 1, 7, 8]) (st' := (sd20111 n e low high i1 q1_0 v1_0 i5p1 va5p1_0)) ((orders_lists_1_1_c_o2 n e low high i1 q1_0 v1_0 i5p1 va5p1_0) ++ [.dec false, .rw 29 (I ((i1 + 1 : Nat) : Int))]) (And.intro (yb (i := i1) (by first | assumption | omega)) (And.intro h36 (And.intro p4 (And.intro h33 (And.intro p1 (And.intro (ct_at hk1) trivial)))))) (by kernel_rfl) (by (simp only [sd20111, go_sem, Nat.reduceAdd, Nat.reduceEqDiff, Nat.reduceLT, Nat.reduceLeDiff, bI2, zU.idsL, zU.renL, zU.snapAll, zg.idsL, zg.renL, zg.snapAll]) <;> rfl) (ih (i1 + 1) v1_0 (by omega) hN1 (by first | assumption | omega) (by first | assumption | omega) (by first | assumption | omega)) (by kernel_rfl)
    | x1 i5p1 =>
      try dsimp only
      have p5 := (po_lrY (q := lr_orders_lists_1_5p1 n e low high q1_0 v1_0 ((i1 : Nat) : Int)) (lp_orders_lists_1_5p1 n e low high q1_0 v1_0 ((i1 : Nat) : Int) (n - 0).toNat 0 (by omega) (by first | assumption | omega) (by first | assumption | omega) (by first | assumption | omega) (by first | assumption | omega)) h32)
      rcases Bool.eq_false_or_eq_true v1_0 with h37 | h37
      · rw [cond_t h37]
        have p6 := (T_orders_cheapest_1 GS.nil GS.nil e (by first | assumption | omega | (with_reducible exact zc) | (with_reducible exact Nat.le_trans zq (by omega)) | (with_reducible exact Nat.le_trans zo (by omega)) | (with_reducible exact Nat.le_trans zp (by omega)) | (with_reducible exact zz) | (with_reducible exact zy (by omega)) | (with_reducible exact zx (by assumption) (by omega)) | (simp only [z8] at * <;> omega) | (simp only [z7, z6, z5, GS.nil_len, GS.some_l, List.length_set, List.length_append, List.length_cons, List.length_nil] at * <;> first | with_reducible assumption | omega) | (simp only [z7, z6, z5, GS.nil_len, GS.some_l, List.length_set, List.length_append, List.length_cons, List.length_nil, z8] at * <;> first | with_reducible assumption | omega) | (simp at * <;> omega)) (by first | assumption | omega | (with_reducible exact zc) | (with_reducible exact Nat.le_trans zq (by omega)) | (with_reducible exact Nat.le_trans zo (by omega)) | (with_reducible exact Nat.le_trans zp (by omega)) | (with_reducible exact zz) | (with_reducible exact zy (by omega)) | (with_reducible exact zx (by assumption) (by omega)) | (simp only [z8] at * <;> omega) | (simp only [z7, z6, z5, GS.nil_len, GS.some_l, List.length_set, List.length_append, List.length_cons, List.length_nil] at * <;> first | with_reducible assumption | omega) | (simp only [z7, z6, z5, GS.nil_len, GS.some_l, List.length_set, List.length_append, List.length_cons, List.length_nil, z8] at * <;> first | with_reducible assumption | omega) | (simp at * <;> omega)) (by first | assumption | omega | (with_reducible exact zc) | (with_reducible exact Nat.le_trans zq (by omega)) | (with_reducible exact Nat.le_trans zo (by omega)) | (with_reducible exact Nat.le_trans zp (by omega)) | (with_reducible exact zz) | (with_reducible exact zy (by omega)) | (with_reducible exact zx (by assumption) (by omega)) | (simp only [z8] at * <;> omega) | (simp only [z7, z6, z5, GS.nil_len, GS.some_l, List.length_set, List.length_append, List.length_cons, List.length_nil] at * <;> first | with_reducible assumption | omega) | (simp only [z7, z6, z5, GS.nil_len, GS.some_l, List.length_set, List.length_append, List.length_cons, List.length_nil, z8] at * <;> first | with_reducible assumption | omega) | (simp at * <;> omega)) (by first | assumption | omega | (with_reducible exact zc) | (with_reducible exact Nat.le_trans zq (by omega)) | (with_reducible exact Nat.le_trans zo (by omega)) | (with_reducible exact Nat.le_trans zp (by omega)) | (with_reducible exact zz) | (with_reducible exact zy (by omega)) | (with_reducible exact zx (by assumption) (by omega)) | (simp only [z8] at * <;> omega) | (simp only [z7, z6, z5, GS.nil_len, GS.some_l, List.length_set, List.length_append, List.length_cons, List.length_nil] at * <;> first | with_reducible assumption | omega) | (simp only [z7, z6, z5, GS.nil_len, GS.some_l, List.length_set, List.length_append, List.length_cons, List.length_nil, z8] at * <;> first | with_reducible assumption | omega) | (simp at * <;> omega)))
        cases h38 : decide ((zv GS.nil GS.nil e) < 0) with
        | true =>
          have g38 := of_decide_eq_true h38
          have p7 := (T_orders_Cheapest_1 GS.nil e low high (by first | assumption | omega | (with_reducible exact zc) | (with_reducible exact Nat.le_trans zq (by omega)) | (with_reducible exact Nat.le_trans zo (by omega)) | (with_reducible exact Nat.le_trans zp (by omega)) | (with_reducible exact zz) | (with_reducible exact zy (by omega)) | (with_reducible exact zx (by assumption) (by omega)) | (simp only [z8] at * <;> omega) | (simp only [z7, z6, z5, GS.nil_len, GS.some_l, List.length_set, List.length_append, List.length_cons, List.length_nil] at * <;> first | with_reducible assumption | omega) | (simp only [z7, z6, z5, GS.nil_len, GS.some_l, List.length_set, List.length_append, List.length_cons, List.length_nil, z8] at * <;> first | with_reducible assumption | omega) | (simp at * <;> omega)) (by first | assumption | omega | (with_reducible exact zc) | (with_reducible exact Nat.le_trans zq (by omega)) | (with_reducible exact Nat.le_trans zo (by omega)) | (with_reducible exact Nat.le_trans zp (by omega)) | (with_reducible exact zz) | (with_reducible exact zy (by omega)) | (with_reducible exact zx (by assumption) (by omega)) | (simp only [z8] at * <;> omega) | (simp only [z7, z6, z5, GS.nil_len, GS.some_l, List.length_set, List.length_append, List.length_cons, List.length_nil] at * <;> first | with_reducible assumption | omega) | (simp only [z7, z6, z5, GS.nil_len, GS.some_l, List.length_set, List.length_append, List.length_cons, List.length_nil, z8] at * <;> first | with_reducible assumption | omega) | (simp at * <;> omega)) (by first | assumption | omega))
          cases h39 : (zm GS.nil e low high) with
          | true =>
            exact po_turnY ((orders_lists_1_1_c_o3 n e low high i1 q1_0 v1_0 i5p1) ++ [.dec true, .pure (B (zm GS.nil e low high)), .dec true, .rw 29 (I ((i1 + 1 : Nat) : Int))]) (And.intro (yb (i := i1) (by first | assumption | omega)) (And.intro h39 (And.intro p7 (And.intro h38 (And.intro p6 (And.intro h37 (And.intro p5 (And.intro (ct_at hk1) trivial)))))))) (ih (i1 + 1) true (by omega) hN1 (by first | assumption | omega) (by first | assumption | omega) (by first | assumption | omega)) (by kernel_rfl)
          | false =>
            exact po_turnY ((orders_lists_1_1_c_o3 n e low high i1 q1_0 v1_0 i5p1) ++ [.dec true, .pure (B (zm GS.nil e low high)), .dec false, .rw 29 (I ((i1 + 1 : Nat) : Int))]) (And.intro (yb (i := i1) (by first | assumption | omega)) (And.intro h39 (And.intro p7 (And.intro h38 (And.intro p6 (And.intro h37 (And.intro p5 (And.intro (ct_at hk1) trivial)))))))) (ih (i1 + 1) v1_0 (by omega) hN1 (by first | assumption | omega) (by first | assumption | omega) (by first | assumption | omega)) (by kernel_rfl)
        | false =>
          have g38 := of_decide_eq_false h38
          exact po_turnY ((orders_lists_1_1_c_o3 n e low high i1 q1_0 v1_0 i5p1) ++ [.dec false, .rw 29 (I ((i1 + 1 : Nat) : Int))]) (And.intro (yb (i := i1) (by first | assumption | omega)) (And.intro h38 (And.intro p6 (And.intro h37 (And.intro p5 (And.intro (ct_at hk1) trivial)))))) (ih (i1 + 1) v1_0 (by omega) hN1 (by first | assumption | omega) (by first | assumption | omega) (by first | assumption | omega)) (by kernel_rfl)
      · rw [cond_f h37]
        have p8 := (T_orders_Cheapest_1 GS.nil e low high (by first | assumption | omega | (with_reducible exact zc) | (with_reducible exact Nat.le_trans zq (by omega)) | (with_reducible exact Nat.le_trans zo (by omega)) | (with_reducible exact Nat.le_trans zp (by omega)) | (with_reducible exact zz) | (with_reducible exact zy (by omega)) | (with_reducible exact zx (by assumption) (by omega)) | (simp only [z8] at * <;> omega) | (simp only [z7, z6, z5, GS.nil_len, GS.some_l, List.length_set, List.length_append, List.length_cons, List.length_nil] at * <;> first | with_reducible assumption | omega) | (simp only [z7, z6, z5, GS.nil_len, GS.some_l, List.length_set, List.length_append, List.length_cons, List.length_nil, z8] at * <;> first | with_reducible assumption | omega) | (simp at * <;> omega)) (by first | assumption | omega | (with_reducible exact zc) | (with_reducible exact Nat.le_trans zq (by omega)) | (with_reducible exact Nat.le_trans zo (by omega)) | (with_reducible exact Nat.le_trans zp (by omega)) | (with_reducible exact zz) | (with_reducible exact zy (by omega)) | (with_reducible exact zx (by assumption) (by omega)) | (simp only [z8] at * <;> omega) | (simp only [z7, z6, z5, GS.nil_len, GS.some_l, List.length_set, List.length_append, List.length_cons, List.length_nil] at * <;> first | with_reducible assumption | omega) | (simp only [z7, z6, z5, GS.nil_len, GS.some_l, List.length_set, List.length_append, List.length_cons, List.length_nil, z8] at * <;> first | with_reducible assumption | omega) | (simp at * <;> omega)) (by first | assumption | omega))
        cases h40 : (zm GS.nil e low high) with
        | true =>
          exact po_turnY ((orders_lists_1_1_c_o4 n e low high i1 q1_0 v1_0 i5p1) ++ [.dec true, .rw 29 (I ((i1 + 1 : Nat) : Int))]) (And.intro (yb (i := i1) (by first | assumption | omega)) (And.intro h40 (And.intro p8 (And.intro h37 (And.intro p5 (And.intro (ct_at hk1) trivial)))))) (ih (i1 + 1) true (by omega) hN1 (by first | assumption | omega) (by first | assumption | omega) (by first | assumption | omega)) (by kernel_rfl)
        | false =>
          exact po_turnY ((orders_lists_1_1_c_o4 n e low high i1 q1_0 v1_0 i5p1) ++ [.dec false, .rw 29 (I ((i1 + 1 : Nat) : Int))]) (And.intro (yb (i := i1) (by first | assumption | omega)) (And.intro h40 (And.intro p8 (And.intro h37 (And.intro p5 (And.intro (ct_at hk1) trivial)))))) (ih (i1 + 1) v1_0 (by omega) hN1 (by first | assumption | omega) (by first | assumption | omega) (by first | assumption | omega)) (by kernel_rfl)
theorem ivt_orders_lists_1_1 (n : Int) (e : S_Estate) (low : Int) (high : Int) (q1_0 : Int) : ∀ (rest1 : Nat) (i1 : Nat) (v1_0 : Bool) (hk1 : (q1_0 - ((i1 : Nat) : Int)).toNat = rest1) (hN1 : q1_0 ≤ 9223372036854775807) (hq1 : q1_0 = w64 (1 * 2 ^ (min (n).toNat 64))) (hn : n = ((e.items.l.length : Nat) : Int)) (hle : e.items.l.length ≤ 12), iv_orders_lists_1_1 n e low high q1_0 (zK n e low high rest1 i1 v1_0) := by
  intro rest1
  induction rest1 with
  | zero =>
    intro i1 v1_0 hk1 hN1 hq1 hn hle
    unfold zK
    exact trivial
  | succ rest1 ih =>
    intro i1 v1_0 hk1 hN1 hq1 hn hle
    have hlt1 := of_decide_eq_true (ct_at hk1)
    unfold zK
    cases h32 : y0 ((i1 : Nat) : Int) (n - 0).toNat 0 with
    | x0 i5p1 va5p1_0 =>
      try dsimp only
      have hv_h32 := ivt_orders_lists_1_5p1 n e low high q1_0 v1_0 ((i1 : Nat) : Int) (n - 0).toNat 0 (by omega) (by first | assumption | omega) (by first | assumption | omega) (by first | assumption | omega) (by first | assumption | omega)
      rw [h32] at hv_h32
      obtain ⟨hv_h32_0, hv_h32_1, hv_h32_2⟩ := hv_h32
      try dsimp only [iv_orders_lists_1_5p1] at hv_h32_0
      try dsimp only [iv_orders_lists_1_5p1] at hv_h32_1
      try dsimp only [iv_orders_lists_1_5p1] at hv_h32_2
      rcases Bool.eq_false_or_eq_true v1_0 with h33 | h33
      · rw [cond_t h33]
        cases h34 : decide ((zv (GS.some va5p1_0) GS.nil e) < 0) with
        | true =>
          have g34 := of_decide_eq_true h34
          cases h35 : (zm (GS.some va5p1_0) e low high) with
          | true =>
            exact ivt_orders_lists_1_1a n e low high q1_0 _ (i1 + 1) va5p1_0 (by omega) hN1 (by first | assumption | omega) (by first | assumption | omega) (by first | assumption | omega) (by first | assumption | omega) (by first | assumption | omega) (by first | assumption | omega)
          | false =>
            exact ih (i1 + 1) v1_0 (by omega) hN1 (by first | assumption | omega) (by first | assumption | omega) (by first | assumption | omega)
        | false =>
          have g34 := of_decide_eq_false h34
          exact ih (i1 + 1) v1_0 (by omega) hN1 (by first | assumption | omega) (by first | assumption | omega) (by first | assumption | omega)
      · rw [cond_f h33]
        cases h36 : (zm (GS.some va5p1_0) e low high) with
        | true =>
          exact ivt_orders_lists_1_1a n e low high q1_0 _ (i1 + 1) va5p1_0 (by omega) hN1 (by first | assumption | omega) (by first | assumption | omega) (by first | assumption | omega) (by first | assumption | omega) (by first | assumption | omega) (by first | assumption | omega)
        | false =>
          exact ih (i1 + 1) v1_0 (by omega) hN1 (by first | assumption | omega) (by first | assumption | omega) (by first | assumption | omega)
    | x1 i5p1 =>
      try dsimp only
      rcases Bool.eq_false_or_eq_true v1_0 with h37 | h37
      · rw [cond_t h37]
        cases h38 : decide ((zv GS.nil GS.nil e) < 0) with
        | true =>
          have g38 := of_decide_eq_true h38
          cases h39 : (zm GS.nil e low high) with
          | true =>
            exact ih (i1 + 1) true (by omega) hN1 (by first | assumption | omega) (by first | assumption | omega) (by first | assumption | omega)
          | false =>
            exact ih (i1 + 1) v1_0 (by omega) hN1 (by first | assumption | omega) (by first | assumption | omega) (by first | assumption | omega)
        | false =>
          have g38 := of_decide_eq_false h38
          exact ih (i1 + 1) v1_0 (by omega) hN1 (by first | assumption | omega) (by first | assumption | omega) (by first | assumption | omega)
      · rw [cond_f h37]
        cases h40 : (zm GS.nil e low high) with
        | true =>
          exact ih (i1 + 1) true (by omega) hN1 (by first | assumption | omega) (by first | assumption | omega) (by first | assumption | omega)
        | false =>
          exact ih (i1 + 1) v1_0 (by omega) hN1 (by first | assumption | omega) (by first | assumption | omega) (by first | assumption | omega)

def leastC (n : Int) (e : S_Estate) (low : Int) (high : Int) : (GS Int) × Bool :=
  match zK n e low high (w64 (1 * 2 ^ (min (n).toNat 64)) - 0).toNat 0 false with
  | .x0 i1 va1_0 =>
    (GS.some va1_0, true)
  | .x1 i1 v1_0 =>
    bif v1_0 then
      (GS.nil, true)
    else
      (GS.nil, false)

def leastC_o1 (e : S_Estate) (low : Int) (high : Int) (v1_0 : Bool) : List Ora := [.iter [(0, ⟨[.fn (.func 73) [] [.ptr (.agg [.sl e.items.nl (e.items.l.map S_Item.D) (zsl e.items.nl 4) none, I e.whole.lo, I e.whole.hi]), .ptr (I low), .ptr (I high)]], 1, false⟩), (1, ⟨[.fn (.func 99) [] [.ptr (.agg [.sl e.items.nl (e.items.l.map S_Item.D) (zsl e.items.nl 4) none, I e.whole.lo, I e.whole.hi])]], 1, false⟩), (2, ⟨[.sl true [] 0 none], 1, false⟩), (3, ⟨[B v1_0], 1, false⟩)] 5 none]

def sd20112 (n : Int) (e : S_Estate) (low : Int) (high : Int) (i1 : Nat) (va1_0 : List Int) : St := ⟨30, [(9, B false), (0, .yld 4), (1, .ptr (I n)), (7, I (w64 (1 * 2 ^ (min (n).toNat 64)))), (8, I ((i1 : Nat) : Int))], [(0, ⟨[.fn (.func 73) [] [.ptr (.agg [.sl e.items.nl (e.items.l.map S_Item.D) (zsl e.items.nl 4) none, I e.whole.lo, I e.whole.hi]), .ptr (I low), .ptr (I high)]], 1, false⟩), (1, ⟨[.fn (.func 99) [] [.ptr (.agg [.sl e.items.nl (e.items.l.map S_Item.D) (zsl e.items.nl 4) none, I e.whole.lo, I e.whole.hi])]], 1, false⟩), (2, ⟨[.lsl 5 0 va1_0.length 1 none], 1, false⟩), (3, ⟨[B true], 1, false⟩), (5, ⟨va1_0.map I, 1, false⟩)], 6, 5⟩

def sd20113 (n : Int) (e : S_Estate) (low : Int) (high : Int) (i1 : Nat) (v1_0 : Bool) : St := ⟨30, [(9, B false), (0, .yld 4), (1, .ptr (I n)), (7, I (w64 (1 * 2 ^ (min (n).toNat 64)))), (8, I ((i1 : Nat) : Int))], [(0, ⟨[.fn (.func 73) [] [.ptr (.agg [.sl e.items.nl (e.items.l.map S_Item.D) (zsl e.items.nl 4) none, I e.whole.lo, I e.whole.hi]), .ptr (I low), .ptr (I high)]], 1, false⟩), (1, ⟨[.fn (.func 99) [] [.ptr (.agg [.sl e.items.nl (e.items.l.map S_Item.D) (zsl e.items.nl 4) none, I e.whole.lo, I e.whole.hi])]], 1, false⟩), (2, ⟨[.sl true [] 0 none], 1, false⟩), (3, ⟨[B v1_0], 1, false⟩)], 5, 5⟩

theorem T_leastC (n : Int) (e : S_Estate) (low : Int) (high : Int) (hn : n = ((e.items.l.length : Nat) : Int)) (hle : e.items.l.length ≤ 12) : (lim cfg).pure 98 [.fn (.func 103) [] [.ptr (I n)], .fn (.func 73) [] [.ptr (S_Estate.D e), .ptr (I low), .ptr (I high)], .fn (.func 99) [] [.ptr (S_Estate.D e)]] = some (.tup [GS.D I 1 ((leastC n e low high).1), B ((leastC n e low high).2)]) := by
  unfold leastC
  cases h41 : zK n e low high (w64 (1 * 2 ^ (min (n).toNat 64)) - 0).toNat 0 false with
  | x0 i1 va1_0 =>
    try dsimp only
    have hv_h41 := ivt_orders_lists_1_1 n e low high (w64 (1 * 2 ^ (min (n).toNat 64))) (w64 (1 * 2 ^ (min (n).toNat 64)) - 0).toNat 0 false (by omega) (by first | assumption | omega | (simp only [z8] at * <;> omega)) (by first | assumption | omega) (by first | assumption | omega) (by first | assumption | omega)
    rw [h41] at hv_h41
    obtain ⟨hv_h41_0, hv_h41_1⟩ := hv_h41
    try dsimp only [iv_orders_lists_1_1] at hv_h41_0
    try dsimp only [iv_orders_lists_1_1] at hv_h41_1
    exact po_pureS [.iter [(0, ⟨[.fn (.func 73) [] [.ptr (.agg [.sl e.items.nl (e.items.l.map S_Item.D) (zsl e.items.nl 4) none, I e.whole.lo, I e.whole.hi]), .ptr (I low), .ptr (I high)]], 1, false⟩), (1, ⟨[.fn (.func 99) [] [.ptr (.agg [.sl e.items.nl (e.items.l.map S_Item.D) (zsl e.items.nl 4) none, I e.whole.lo, I e.whole.hi])]], 1, false⟩), (2, ⟨[.lsl 5 0 va1_0.length 1 none], 1, false⟩), (3, ⟨[B true], 1, false⟩), (5, ⟨va1_0.map I, 1, false⟩)] 6 none, .dec true] [(5, .sl false (va1_0.map I) 1 none, [5])] (And.intro (snap_row (gO := zD [(0, ⟨[.fn (.func 73) [] [.ptr (.agg [.sl e.items.nl (e.items.l.map S_Item.D) (zsl e.items.nl 4) none, I e.whole.lo, I e.whole.hi]), .ptr (I low), .ptr (I high)]], 1, false⟩), (1, ⟨[.fn (.func 99) [] [.ptr (.agg [.sl e.items.nl (e.items.l.map S_Item.D) (zsl e.items.nl 4) none, I e.whole.lo, I e.whole.hi])]], 1, false⟩), (2, ⟨[.lsl 5 0 va1_0.length 1 none], 1, false⟩), (3, ⟨[B true], 1, false⟩), (5, ⟨va1_0.map I, 1, false⟩)]) (o := 5) (len := va1_0.length) (cap := none) (fz := false) zU va1_0 (by kernel_rfl) (by first | assumption | omega)) (And.intro (Eq.refl true) (And.intro (show (lim cfg).iter (rg20083 n e low high) 103 [.yld 4, .ptr (I n)] [(0, ⟨[.fn (.func 73) [] [.ptr (.agg [.sl e.items.nl (e.items.l.map S_Item.D) (zsl e.items.nl 4) none, I e.whole.lo, I e.whole.hi]), .ptr (I low), .ptr (I high)]], 1, false⟩), (1, ⟨[.fn (.func 99) [] [.ptr (.agg [.sl e.items.nl (e.items.l.map S_Item.D) (zsl e.items.nl 4) none, I e.whole.lo, I e.whole.hi])]], 1, false⟩), (2, ⟨[.sl true [] 0 none], 1, false⟩), (3, ⟨[B false], 1, false⟩)] 5 = some ([(0, ⟨[.fn (.func 73) [] [.ptr (.agg [.sl e.items.nl (e.items.l.map S_Item.D) (zsl e.items.nl 4) none, I e.whole.lo, I e.whole.hi]), .ptr (I low), .ptr (I high)]], 1, false⟩), (1, ⟨[.fn (.func 99) [] [.ptr (.agg [.sl e.items.nl (e.items.l.map S_Item.D) (zsl e.items.nl 4) none, I e.whole.lo, I e.whole.hi])]], 1, false⟩), (2, ⟨[.lsl 5 0 va1_0.length 1 none], 1, false⟩), (3, ⟨[B true], 1, false⟩), (5, ⟨va1_0.map I, 1, false⟩)], 6, none) from po_iter [.op (some 7) ⟨I (w64 (1 * 2 ^ (min (n).toNat 64))), [], [], 5⟩, .loopY (.exit 0) (sd20112 n e low high i1 va1_0) none] (And.intro (po_lrY (q := lr_orders_lists_1_1 n e low high (w64 (1 * 2 ^ (min (n).toNat 64)))) (lp_orders_lists_1_1 n e low high (w64 (1 * 2 ^ (min (n).toNat 64))) (w64 (1 * 2 ^ (min (n).toNat 64)) - 0).toNat 0 false (by omega) (by first | assumption | omega | (simp only [z8] at * <;> omega)) (by first | assumption | omega) (by first | assumption | omega) (by first | assumption | omega)) h41) (And.intro (shl_op (C := cfg) (t := 3) (cst := true) (nxt := 5) (a := 1) (b := n) (by first | assumption | omega)) trivial)) (by kernel_rfl)) trivial))) (by kernel_rfl)
  | x1 i1 v1_0 =>
    try dsimp only
    have p1 := (show (lim cfg).iter (rg20083 n e low high) 103 [.yld 4, .ptr (I n)] [(0, ⟨[.fn (.func 73) [] [.ptr (.agg [.sl e.items.nl (e.items.l.map S_Item.D) (zsl e.items.nl 4) none, I e.whole.lo, I e.whole.hi]), .ptr (I low), .ptr (I high)]], 1, false⟩), (1, ⟨[.fn (.func 99) [] [.ptr (.agg [.sl e.items.nl (e.items.l.map S_Item.D) (zsl e.items.nl 4) none, I e.whole.lo, I e.whole.hi])]], 1, false⟩), (2, ⟨[.sl true [] 0 none], 1, false⟩), (3, ⟨[B false], 1, false⟩)] 5 = some ([(0, ⟨[.fn (.func 73) [] [.ptr (.agg [.sl e.items.nl (e.items.l.map S_Item.D) (zsl e.items.nl 4) none, I e.whole.lo, I e.whole.hi]), .ptr (I low), .ptr (I high)]], 1, false⟩), (1, ⟨[.fn (.func 99) [] [.ptr (.agg [.sl e.items.nl (e.items.l.map S_Item.D) (zsl e.items.nl 4) none, I e.whole.lo, I e.whole.hi])]], 1, false⟩), (2, ⟨[.sl true [] 0 none], 1, false⟩), (3, ⟨[B v1_0], 1, false⟩)], 5, none) from po_iter [.op (some 7) ⟨I (w64 (1 * 2 ^ (min (n).toNat 64))), [], [], 5⟩, .loopY (.exit 0) (sd20113 n e low high i1 v1_0) none] (And.intro (po_lrY (q := lr_orders_lists_1_1 n e low high (w64 (1 * 2 ^ (min (n).toNat 64)))) (lp_orders_lists_1_1 n e low high (w64 (1 * 2 ^ (min (n).toNat 64))) (w64 (1 * 2 ^ (min (n).toNat 64)) - 0).toNat 0 false (by omega) (by first | assumption | omega | (simp only [z8] at * <;> omega)) (by first | assumption | omega) (by first | assumption | omega) (by first | assumption | omega)) h41) (And.intro (shl_op (C := cfg) (t := 3) (cst := true) (nxt := 5) (a := 1) (b := n) (by first | assumption | omega)) trivial)) (by kernel_rfl))
    rcases Bool.eq_false_or_eq_true v1_0 with h42 | h42
    · rw [cond_t h42]
      exact za ((leastC_o1 e low high v1_0) ++ [.dec true]) (And.intro h42 (And.intro p1 trivial)) (by kernel_rfl)
    · rw [cond_f h42]
      exact za ((leastC_o1 e low high v1_0) ++ [.dec false]) (And.intro h42 (And.intro p1 trivial)) (by kernel_rfl)
end Go.VS

/-
  Orders: what leastOf comes to. (A text of this claim's own; nothing of it is trusted.)
-/
namespace Go.VS
set_option maxHeartbeats 0
/-- What is asked of a list; is one less than another one. -/
def okLC (e : S_Estate) (low high : Int) (l : List Int) : Bool := zm (GS.some l) e low high
def ltI (e : S_Estate) (l c : List Int) : Bool := decide (zv (GS.some l) (GS.some c) e < 0)
theorem cmp2_congr {b b' : GS Int} (h : b.l = b'.l) : ∀ (l : List Int) (i : Nat), zZ b l i = zZ b' l i
  | [], _ => rfl
  | x :: l, i => by
    unfold zZ
    have e1 : b.at ((i : Nat) : Int) = b'.at ((i : Nat) : Int) := by unfold GS.at; rw [h]
    rw [h, e1, cmp2_congr h l (i + 1)]
theorem cheap_nil (a : GS Int) (e : S_Estate) : zv a GS.nil e = zv a (GS.some []) e := by
  unfold zv slices_Compare
  rw [cmp2_congr (b := GS.nil) (b' := GS.some []) rfl a.l 0]
  cases zZ (GS.some []) a.l 0 <;> rfl
theorem l5a_C (w : List Int) {m : Nat} (hm : m < 4611686018427387904) : ∀ (r i : Nat) (v u : List Int), i + r ≤ 64 → zW w ((m : Nat) : Int) r i v u = .x0 (i + r) (v ++ bitsFrom m r i) u
  | 0, i, v, u, _ => by simp [zW, bitsFrom]
  | r + 1, i, v, u, h => by
    unfold zW bitsFrom
    rw [bt_eq hm (by omega)]
    cases m.testBit i with
    | true => simp only [cond_true]; rw [l5a_C w hm r (i + 1) _ _ (by omega)]; simp; omega
    | false => simp only [cond_false]; rw [l5a_C w hm r (i + 1) _ _ (by omega)]; simp; omega
theorem l5_C (w : List Int) {m : Nat} (hm : m < 4611686018427387904) : ∀ (r i : Nat), i + r ≤ 64 → (bitsFrom m r i = [] → zT w ((m : Nat) : Int) r i = .x1 (i + r)) ∧ (bitsFrom m r i ≠ [] → zT w ((m : Nat) : Int) r i = .x0 (i + r) (bitsFrom m r i) w)
  | 0, i, _ => ⟨fun _ => rfl, fun h => absurd rfl h⟩
  | r + 1, i, h => by
    unfold zT bitsFrom
    rw [bt_eq hm (by omega)]
    cases m.testBit i with
    | true => simp only [cond_true]; rw [l5a_C w hm r (i + 1) _ _ (by omega)]; simp; omega
    | false =>
      have ih := l5_C w hm r (i + 1) (by omega)
      rw [show i + 1 + r = i + (r + 1) by omega] at ih
      simp only [cond_false]
      exact ih
theorem l5pa_C {m : Nat} (hm : m < 4611686018427387904) : ∀ (r i : Nat) (v : List Int), i + r ≤ 64 → y7 ((m : Nat) : Int) r i v = .x0 (i + r) (v ++ bitsFrom m r i)
  | 0, i, v, _ => by simp [y7, bitsFrom]
  | r + 1, i, v, h => by
    unfold y7 bitsFrom
    rw [bt_eq hm (by omega)]
    cases m.testBit i with
    | true => simp only [cond_true]; rw [l5pa_C hm r (i + 1) _ (by omega)]; simp; omega
    | false => simp only [cond_false]; rw [l5pa_C hm r (i + 1) _ (by omega)]; simp; omega
theorem l5p_C {m : Nat} (hm : m < 4611686018427387904) : ∀ (r i : Nat), i + r ≤ 64 → (bitsFrom m r i = [] → y0 ((m : Nat) : Int) r i = .x1 (i + r)) ∧ (bitsFrom m r i ≠ [] → y0 ((m : Nat) : Int) r i = .x0 (i + r) (bitsFrom m r i))
  | 0, i, _ => ⟨fun _ => rfl, fun h => absurd rfl h⟩
  | r + 1, i, h => by
    unfold y0 bitsFrom
    rw [bt_eq hm (by omega)]
    cases m.testBit i with
    | true => simp only [cond_true]; rw [l5pa_C hm r (i + 1) _ (by omega)]; simp; omega
    | false =>
      have ih := l5p_C hm r (i + 1) (by omega)
      rw [show i + 1 + r = i + (r + 1) by omega] at ih
      simp only [cond_false]
      exact ih
section
variable {e : S_Estate} {low high : Int} {n : Nat}
theorem l1a_C (hn : n ≤ 12) : ∀ (r i : Nat) (c : List Int), 1 ≤ i → i + r ≤ 2 ^ n → c ≠ [] → ∃ w, goC (okLC e low high) (ltI e) n r i (some c) = some w ∧ w ≠ [] ∧ zX (n : Int) e low high r i c = .x0 (i + r) w
  | 0, i, c, _, _, h => ⟨c, rfl, h, rfl⟩
  | r + 1, i, c, h1, h2, h3 => by
    have hp : 2 ^ n ≤ 2 ^ 12 := Nat.pow_le_pow_right (by omega) hn
    have hne := bits_ne (n := n) (m := i) (by omega) h1
    have q := (l5_C c (m := i) (by omega) n 0 (by omega)).2 hne
    unfold zX goC stp
    rw [show ((n : Int) - 0).toNat = n by omega, q]
    dsimp only
    change ∃ w, goC _ _ n r (i + 1) (bif ltI e (chosen n i) c then bif okLC e low high (chosen n i) then some (chosen n i) else some c else some c) = some w ∧ w ≠ [] ∧ (bif ltI e (chosen n i) c then bif okLC e low high (chosen n i) then _ else _ else _) = _
    rw [show i + (r + 1) = i + 1 + r by omega]
    cases ltI e (chosen n i) c with
    | false => exact l1a_C hn r (i + 1) c (by omega) (by omega) h3
    | true =>
      cases okLC e low high (chosen n i) with
      | false => exact l1a_C hn r (i + 1) c (by omega) (by omega) h3
      | true => exact l1a_C hn r (i + 1) (chosen n i) (by omega) (by omega) hne
def optB (v : Bool) : Option (List Int) := match v with | true => some [] | false => none
theorem l1_C (hn : n ≤ 12) : ∀ (r i : Nat) (v : Bool), i + r ≤ 2 ^ n → (∃ v', goC (okLC e low high) (ltI e) n r i (optB v) = optB v' ∧ zK (n : Int) e low high r i v = .x1 (i + r) v') ∨ (∃ w, goC (okLC e low high) (ltI e) n r i (optB v) = some w ∧ w ≠ [] ∧ zK (n : Int) e low high r i v = .x0 (i + r) w)
  | 0, i, v, _ => .inl ⟨v, rfl, rfl⟩
  | r + 1, i, v, h2 => by
    have hp : 2 ^ n ≤ 2 ^ 12 := Nat.pow_le_pow_right (by omega) hn
    have q := l5p_C (m := i) (by omega) n 0 (by omega)
    unfold zK goC
    rw [show ((n : Int) - 0).toNat = n by omega, show i + (r + 1) = i + 1 + r by omega]
    have b1 : decide (zv GS.nil GS.nil e < 0) = ltI e [] [] := rfl
    have b2 : zm GS.nil e low high = okLC e low high [] := rfl
    have a1 : decide (zv (GS.some (bitsFrom i n 0)) GS.nil e < 0) = ltI e (chosen n i) [] := by rw [cheap_nil]; rfl
    have a2 : zm (GS.some (bitsFrom i n 0)) e low high = okLC e low high (chosen n i) := rfl
    have a3 : bitsFrom i n 0 = chosen n i := rfl
    have s1 : ∀ l, stp (okLC e low high) (ltI e) (optB true) l = (bif ltI e l [] then (bif okLC e low high l then some l else some []) else some []) := fun _ => rfl
    have s0 : ∀ l, stp (okLC e low high) (ltI e) (optB false) l = (bif okLC e low high l then some l else none) := fun _ => rfl
    by_cases hc : chosen n i = []
    · rw [q.1 hc, hc]
      dsimp only
      rw [b1, b2]
      cases v with
      | true =>
        rw [s1]
        simp only [cond_true]
        cases ltI e [] [] with
        | false => exact l1_C hn r (i + 1) true (by omega)
        | true => cases okLC e low high [] <;> exact l1_C hn r (i + 1) true (by omega)
      | false =>
        rw [s0]
        simp only [cond_false]
        cases okLC e low high [] with
        | false => exact l1_C hn r (i + 1) false (by omega)
        | true => exact l1_C hn r (i + 1) true (by omega)
    · rw [q.2 hc]
      dsimp only
      rw [a1, a2, a3]
      have far : ∃ w, goC (okLC e low high) (ltI e) n r (i + 1) (some (chosen n i)) = some w ∧ w ≠ [] ∧ zX (n : Int) e low high r (i + 1) (chosen n i) = .x0 (i + 1 + r) w := l1a_C hn r (i + 1) (chosen n i) (by omega) (by omega) hc
      cases v with
      | true =>
        rw [s1]
        simp only [cond_true]
        cases ltI e (chosen n i) [] with
        | false => exact l1_C hn r (i + 1) true (by omega)
        | true =>
          cases okLC e low high (chosen n i) with
          | false => exact l1_C hn r (i + 1) true (by omega)
          | true => exact .inr far
      | false =>
        rw [s0]
        simp only [cond_false]
        cases okLC e low high (chosen n i) with
        | false => exact l1_C hn r (i + 1) false (by omega)
        | true => exact .inr far
/-- leastOf: the least list. -/
theorem leastC_eq (hn : n ≤ 12) : (leastC (n : Int) e low high).1.l = (goC (okLC e low high) (ltI e) n (2 ^ n) 0 none).getD [] ∧ (leastC (n : Int) e low high).2 = (goC (okLC e low high) (ltI e) n (2 ^ n) 0 none).isSome := by
  unfold leastC
  rw [shl_one (by omega) (by omega), Int.sub_zero, Int.toNat_natCast, Int.toNat_natCast]
  rcases l1_C (e := e) (low := low) (high := high) hn (2 ^ n) 0 false (by omega) with ⟨v', h1, h2⟩ | ⟨w, h1, h2, h3⟩
  · have h1' : goC (okLC e low high) (ltI e) n (2 ^ n) 0 none = optB v' := h1
    rw [h2, h1']
    cases v' <;> exact ⟨rfl, rfl⟩
  · have h1' : goC (okLC e low high) (ltI e) n (2 ^ n) 0 none = some w := h1
    rw [h3, h1']
    exact ⟨rfl, rfl⟩
end
end Go.VS

namespace Go.VS
open Go Go.Proofs
set_option maxHeartbeats 0
set_option linter.unusedSimpArgs false
set_option linter.unusedVariables false
theorem T_lists (n : Int) : (lim cfg).pure 64 [I n] = some (.fn (.func 103) [] [.ptr (I n)]) := za [] trivial (by kernel_rfl)

def y5 (e : S_Estate) (low : Int) (high : Int) : (GS Int) × Bool :=
  bif ((leastC ((e.items.l.length : Nat) : Int) e low high).1).nl then
    bif ((leastC ((e.items.l.length : Nat) : Int) e low high).2) then
      (((leastC ((e.items.l.length : Nat) : Int) e low high).1), true)
    else
      (((leastC ((e.items.l.length : Nat) : Int) e low high).1), false)
  else
    bif ((leastC ((e.items.l.length : Nat) : Int) e low high).2) then
      (((leastC ((e.items.l.length : Nat) : Int) e low high).1), true)
    else
      (((leastC ((e.items.l.length : Nat) : Int) e low high).1), false)

def cheapestC_o1 (e : S_Estate) (low : Int) (high : Int) : List Ora := [.rw 8 (I ((e.items.l.length : Nat) : Int)), .pure (.fn (.func 103) [] [.ptr (I ((e.items.l.length : Nat) : Int))]), .pureS (.tup [.sl (((leastC ((e.items.l.length : Nat) : Int) e low high).1).nl) ((((leastC ((e.items.l.length : Nat) : Int) e low high).1).l).map I) (zsl (((leastC ((e.items.l.length : Nat) : Int) e low high).1).nl) 1) none, B ((leastC ((e.items.l.length : Nat) : Int) e low high).2)]) true []]

def cheapestC_o2 (e : S_Estate) (low : Int) (high : Int) : List Ora := [.rw 8 (I ((e.items.l.length : Nat) : Int)), .pure (.fn (.func 103) [] [.ptr (I ((e.items.l.length : Nat) : Int))]), .pureS (.tup [.sl (((leastC ((e.items.l.length : Nat) : Int) e low high).1).nl) ((((leastC ((e.items.l.length : Nat) : Int) e low high).1).l).map I) (zsl (((leastC ((e.items.l.length : Nat) : Int) e low high).1).nl) 1) none, B ((leastC ((e.items.l.length : Nat) : Int) e low high).2)]) false []]

theorem T_cheapestC (e : S_Estate) (low : Int) (high : Int) (hle : e.items.l.length ≤ 12) : (lim cfg).pure 59 [S_Estate.D e, .agg [.fn (.func 73) [] [.ptr (S_Estate.D e), .ptr (I low), .ptr (I high)]]] = some (.tup [GS.D I 1 ((y5 e low high).1), B ((y5 e low high).2)]) := by
  unfold y5
  have p1 := (T_lists ((e.items.l.length : Nat) : Int))
  cases h1 : ((leastC ((e.items.l.length : Nat) : Int) e low high).1).nl with
  | true =>
    have p2 := (And.intro (show flat fuelD (.tup [.sl (((leastC ((e.items.l.length : Nat) : Int) e low high).1).nl) ((((leastC ((e.items.l.length : Nat) : Int) e low high).1).l).map I) (zsl (((leastC ((e.items.l.length : Nat) : Int) e low high).1).nl) 1) none, B ((leastC ((e.items.l.length : Nat) : Int) e low high).2)]) = true from (by rw [h1] <;> kernel_rfl)) (And.intro (trivial) (T_leastC ((e.items.l.length : Nat) : Int) e low high (by first | assumption | omega) (by first | assumption | omega))))
    cases h2 : ((leastC ((e.items.l.length : Nat) : Int) e low high).2) with
    | true =>
      exact za ((cheapestC_o1 e low high) ++ [.dec true]) (And.intro h2 (And.intro p2 (And.intro p1 (And.intro (zh S_Item.D e.items) trivial)))) (by kernel_rfl)
    | false =>
      exact za ((cheapestC_o1 e low high) ++ [.dec false]) (And.intro h2 (And.intro p2 (And.intro p1 (And.intro (zh S_Item.D e.items) trivial)))) (by kernel_rfl)
  | false =>
    have p3 := (And.intro (show flat fuelD (.tup [.sl (((leastC ((e.items.l.length : Nat) : Int) e low high).1).nl) ((((leastC ((e.items.l.length : Nat) : Int) e low high).1).l).map I) (zsl (((leastC ((e.items.l.length : Nat) : Int) e low high).1).nl) 1) none, B ((leastC ((e.items.l.length : Nat) : Int) e low high).2)]) = false from (by rw [h1] <;> kernel_rfl)) (And.intro (trivial) (T_leastC ((e.items.l.length : Nat) : Int) e low high (by first | assumption | omega) (by first | assumption | omega))))
    cases h3 : ((leastC ((e.items.l.length : Nat) : Int) e low high).2) with
    | true =>
      exact za ((cheapestC_o2 e low high) ++ [.dec true]) (And.intro h3 (And.intro p3 (And.intro p1 (And.intro (zh S_Item.D e.items) trivial)))) (by kernel_rfl)
    | false =>
      exact za ((cheapestC_o2 e low high) ++ [.dec false]) (And.intro h3 (And.intro p3 (And.intro p1 (And.intro (zh S_Item.D e.items) trivial)))) (by kernel_rfl)

theorem bounds_nil {e : S_Estate} {low high : Int} (h : zF e GS.nil low high = 0) : 1 ≤ e.items.l.length ∧ e.items.l.length ≤ 12 := by
  have h1 := bounds_iff.1 h
  have h2 := right_ok (by simp [GS.nil]) h1.1
  exact ⟨h2.1, h2.2.1⟩

def z9 (e : S_Estate) (low : Int) (high : Int) : (GS Int) × Bool × Int :=
  bif ((zF e GS.nil low high) != 0) then
    (GS.nil, false, (zF e GS.nil low high))
  else
    bif ((y5 e low high).1).nl then
      bif ((y5 e low high).2) then
        (((y5 e low high).1), true, 0)
      else
        (((y5 e low high).1), false, 0)
    else
      bif ((y5 e low high).2) then
        (((y5 e low high).1), true, 0)
      else
        (((y5 e low high).1), false, 0)

def orders_Cheapest_o1 (e : S_Estate) (low : Int) (high : Int) : List Ora := [.pure (I (zF e GS.nil low high)), .dec false, .pureS (.tup [.sl (((y5 e low high).1).nl) ((((y5 e low high).1).l).map I) (zsl (((y5 e low high).1).nl) 1) none, B ((y5 e low high).2)]) true []]

def orders_Cheapest_o2 (e : S_Estate) (low : Int) (high : Int) : List Ora := [.pure (I (zF e GS.nil low high)), .dec false, .pureS (.tup [.sl (((y5 e low high).1).nl) ((((y5 e low high).1).l).map I) (zsl (((y5 e low high).1).nl) 1) none, B ((y5 e low high).2)]) false []]

theorem T_orders_Cheapest (e : S_Estate) (low : Int) (high : Int) : (lim cfg).pure 19 [S_Estate.D e, I low, I high] = some (.tup [GS.D I 1 ((z9 e low high).1), B ((z9 e low high).2.1), I ((z9 e low high).2.2)]) := by
  unfold z9
  have p1 := (T_orders_bounds e GS.nil low high (by first | assumption | omega | (with_reducible exact zc) | (with_reducible exact Nat.le_trans zq (by omega)) | (with_reducible exact Nat.le_trans zo (by omega)) | (with_reducible exact Nat.le_trans zp (by omega)) | (with_reducible exact zz) | (with_reducible exact zy (by omega)) | (with_reducible exact zx (by assumption) (by omega)) | (simp only [z8] at * <;> omega) | (simp only [z7, z6, z5, GS.nil_len, GS.some_l, List.length_set, List.length_append, List.length_cons, List.length_nil] at * <;> first | with_reducible assumption | omega) | (simp only [z7, z6, z5, GS.nil_len, GS.some_l, List.length_set, List.length_append, List.length_cons, List.length_nil, z8] at * <;> first | with_reducible assumption | omega) | (simp at * <;> omega)))
  cases h1 : ((zF e GS.nil low high) != 0) with
  | true =>
    have g1 := bne_true h1
    exact za [.pure (I (zF e GS.nil low high)), .dec true] (And.intro h1 (And.intro p1 trivial)) (by kernel_rfl)
  | false =>
    have g1 := bounds_nil (bne_false h1)
    cases h2 : ((y5 e low high).1).nl with
    | true =>
      have p2 := (And.intro (show flat fuelD (.tup [.sl (((y5 e low high).1).nl) ((((y5 e low high).1).l).map I) (zsl (((y5 e low high).1).nl) 1) none, B ((y5 e low high).2)]) = true from (by rw [h2] <;> kernel_rfl)) (And.intro (trivial) (T_cheapestC e low high (by first | assumption | omega))))
      cases h3 : ((y5 e low high).2) with
      | true =>
        exact za ((orders_Cheapest_o1 e low high) ++ [.dec true]) (And.intro h3 (And.intro p2 (And.intro h1 (And.intro p1 trivial)))) (by kernel_rfl)
      | false =>
        exact za ((orders_Cheapest_o1 e low high) ++ [.dec false]) (And.intro h3 (And.intro p2 (And.intro h1 (And.intro p1 trivial)))) (by kernel_rfl)
    | false =>
      have p3 := (And.intro (show flat fuelD (.tup [.sl (((y5 e low high).1).nl) ((((y5 e low high).1).l).map I) (zsl (((y5 e low high).1).nl) 1) none, B ((y5 e low high).2)]) = false from (by rw [h2] <;> kernel_rfl)) (And.intro (trivial) (T_cheapestC e low high (by first | assumption | omega))))
      cases h4 : ((y5 e low high).2) with
      | true =>
        exact za ((orders_Cheapest_o2 e low high) ++ [.dec true]) (And.intro h4 (And.intro p3 (And.intro h1 (And.intro p1 trivial)))) (by kernel_rfl)
      | false =>
        exact za ((orders_Cheapest_o2 e low high) ++ [.dec false]) (And.intro h4 (And.intro p3 (And.intro h1 (And.intro p1 trivial)))) (by kernel_rfl)
end Go.VS

/-
  Orders: does it stay open. (A text of this claim's own; nothing of it is trusted.)
-/
namespace Go.VS
set_option maxHeartbeats 0
/-- The least number added behind which the span reaches beyond low. -/
def opS (e : S_Estate) (g low : Int) : Int := max (max 0 (e.whole.lo - (sHi e.items.l - g))) (low + 1 - (sHi e.items.l - g))
def Opn (e : S_Estate) (g low high : Int) : Prop := opS e g low ≤ min g (e.whole.hi - sLo e.items.l) ∧ max (sLo e.items.l + opS e g low) e.whole.lo < high ∧ low < min (sHi e.items.l - g + opS e g low) e.whole.hi
theorem open_eq {e : S_Estate} (h : V e) {items : GS Int} (hi : inc (-1) (e.items.l.length : Int) items.l) {low high : Int} (h0 : -1099511627776 ≤ low) (h1 : high ≤ 1099511627776) (hlh : low < high) :
    (Opn e (tot (gs e items.l)) low high → zG e items low high = (orders_shown e items (opS e (tot (gs e items.l)) low), true)) ∧ (¬ Opn e (tot (gs e items.l)) low high → zG e items low high = (GS.nil, false)) := by
  have hg := gs_range h hi
  have hb := sums_bd h.sp
  have hn := h.n2
  have w0 := h.w0; have w1 := h.w1; have w2 := h.w2
  have hk := wn_ok h hg.1 hg.2
  have e1 : imax (wlo (wn e (tot (gs e items.l)))) (w64 (w64 (low + 1) - (wn e (tot (gs e items.l))).at_.hi)) = opS e (tot (gs e items.l)) low := by
    rw [imax_eq]
    have : (wn e (tot (gs e items.l))).at_.hi = sHi e.items.l - tot (gs e items.l) := rfl
    rw [this, w64_eq (n := low + 1) (by omega) (by omega), w64_eq (by omega) (by omega)]
    rfl
  have e2 : whi (wn e (tot (gs e items.l))) = min (tot (gs e items.l)) (e.whole.hi - sLo e.items.l) := rfl
  have e3 : 0 ≤ opS e (tot (gs e items.l)) low := by unfold opS; omega
  unfold zG Opn
  rw [gtot_eq h hi, windowOf_eq h hg.1 hg.2, ends_eq hk]
  simp only []
  rw [e1, e2]
  by_cases c1 : opS e (tot (gs e items.l)) low > min (tot (gs e items.l)) (e.whole.hi - sLo e.items.l)
  · rw [decide_eq_true c1]
    simp only [cond_true]
    exact ⟨fun hh => by omega, fun _ => trivial⟩
  · rw [decide_eq_false c1, seen_eq hk e3 (by show _ ≤ tot (gs e items.l); omega)]
    simp only [cond_false]
    have f1 : max ((wn e (tot (gs e items.l))).at_.lo + opS e (tot (gs e items.l)) low) (wn e (tot (gs e items.l))).whole_.lo = max (sLo e.items.l + opS e (tot (gs e items.l)) low) e.whole.lo := rfl
    have f2 : min ((wn e (tot (gs e items.l))).at_.hi + opS e (tot (gs e items.l)) low) (wn e (tot (gs e items.l))).whole_.hi = min (sHi e.items.l - tot (gs e items.l) + opS e (tot (gs e items.l)) low) e.whole.hi := rfl
    rw [f1, f2]
    by_cases c2 : max (sLo e.items.l + opS e (tot (gs e items.l)) low) e.whole.lo ≥ high
    · rw [decide_eq_true c2]
      simp only [cond_true]
      exact ⟨fun hh => by omega, fun _ => trivial⟩
    · rw [decide_eq_false c2]
      simp only [cond_false]
      by_cases c3 : min (sHi e.items.l - tot (gs e items.l) + opS e (tot (gs e items.l)) low) e.whole.hi ≤ low
      · rw [decide_eq_true c3]
        simp only [cond_true]
        exact ⟨fun hh => by omega, fun _ => trivial⟩
      · rw [decide_eq_false c3]
        simp only [cond_false]
        exact ⟨fun _ => trivial, fun hh => absurd ⟨by omega, by omega, by omega⟩ hh⟩
end Go.VS

/-
  Orders: what Cheapest answers. (A text of this claim's own; nothing of it is trusted.)
-/
namespace Go.VS
set_option maxHeartbeats 0
/-- The cheapest list that decides. -/
def chpO (e : S_Estate) (low high : Int) : Option (List Int) := goC (okLC e low high) (ltI e) e.items.l.length (2 ^ e.items.l.length) 0 none
theorem cheapestC_eq (e : S_Estate) (low high : Int) : y5 e low high = leastC ((e.items.l.length : Nat) : Int) e low high := by
  unfold y5
  generalize leastC ((e.items.l.length : Nat) : Int) e low high = r
  obtain ⟨g, b⟩ := r
  dsimp only
  cases g.nl <;> cases b <;> rfl
theorem cheapF {e : S_Estate} (h : V e) {low high : Int} (h0 : -1099511627776 ≤ low) (h1 : high ≤ 1099511627776) (hlh : low < high) :
    (z9 e low high).1.l = (chpO e low high).getD [] ∧ (z9 e low high).2.1 = (chpO e low high).isSome ∧ (z9 e low high).2.2 = 0 := by
  have hb : zF e GS.nil low high = 0 := bounds_iff.2 ⟨right_of (by simp [GS.nil]) h trivial, hlh, h0, h1⟩
  have k := leastC_eq (e := e) (low := low) (high := high) (n := e.items.l.length) h.n2
  unfold z9
  rw [hb, cheapestC_eq]
  simp only [bne_self_eq_false, cond_false]
  unfold chpO
  rw [← k.1, ← k.2]
  generalize leastC ((e.items.l.length : Nat) : Int) e low high = r
  obtain ⟨g, b⟩ := r
  dsimp only
  cases g.nl <;> cases b <;> exact ⟨rfl, rfl, rfl⟩
theorem chp_some {e : S_Estate} {low high : Int} {w : List Int} (hw : chpO e low high = some w) : inc (-1) (e.items.l.length : Int) w ∧ okLC e low high w = true := by
  rcases goC_some _ _ _ _ hw with h | ⟨k, _, _, rfl, h⟩
  · cases h
  · exact ⟨chosen_inc _ _, h⟩
theorem cheap_len {e : S_Estate} {low high : Int} : (z9 e low high).1.l.length ≤ 9223372036854775807 := by
  by_cases hb : zF e GS.nil low high = 0
  · obtain ⟨b1, b2, b3, b4⟩ := bounds_iff.1 hb
    have h := check_iff.1 ((right_iff (by simp [GS.nil])).1 b1).1
    rw [(cheapF h b3 b4 b2).1]
    cases hw : chpO e low high with
    | none => simp
    | some w => have := inc_short h (chp_some hw).1; show w.length ≤ _; omega
  · unfold z9
    have : (zF e GS.nil low high != 0) = true := by simpa using hb
    rw [this]
    simp [GS.nil]
/-- Does a list decide. -/
theorem okC_eq {e : S_Estate} (h : V e) {l : List Int} (hi : inc (-1) (e.items.l.length : Int) l) {low high : Int} (h0 : -1099511627776 ≤ low) (h1 : high ≤ 1099511627776) (hlh : low < high) :
    okLC e low high l = true ↔ ¬ Opn e (tot (gs e l)) low high := by
  have k := open_eq (items := GS.some l) h hi h0 h1 hlh
  unfold okLC zm
  by_cases c : Opn e (tot (gs e l)) low high
  · rw [k.1 c]
    exact ⟨fun h => (by cases h), fun h => absurd c h⟩
  · rw [k.2 c]
    exact ⟨fun _ => c, fun _ => rfl⟩
/-! ### comparing -/
theorem compare_eq (a b : Int) : zH a b = if a < b then -1 else if b < a then 1 else 0 := by
  unfold zH cmp_isNaN
  simp only [bne_self_eq_false, cond_false, Bool.cond_decide]
end Go.VS

namespace Go.VS
open Go Go.Proofs
set_option maxHeartbeats 0
set_option linter.unusedSimpArgs false
set_option linter.unusedVariables false
noncomputable def lp62_3 : Code := subC [1, 1, 0, 1, 0, 0] (bodyC Tryz.f62)

def sd20114 (e : S_Estate) (bits : Int) (i3 : Nat) (va3_0 : List Int) : St := ⟨24, [(6, I ((i3 + 1 : Nat) : Int)), (13, I ((i3 + 1 : Nat) : Int)), (12, I ((i3 : Nat) : Int)), (5, .lsl 3 0 ((va3_0 ++ [((i3 : Nat) : Int)]).length) 1 none), (22, .lsl 3 0 ((va3_0 ++ [((i3 : Nat) : Int)]).length) 1 none), (21, .lsl 2 0 1 1 (some 1)), (20, I ((i3 : Nat) : Int)), (19, .lsl 1 0 va3_0.length 1 none), (18, B true), (17, I (w64 ((BitVec.ofInt 64 ((bits).fdiv (2 ^ (min (((i3 : Nat) : Int)).toNat 64))) &&& BitVec.ofInt 64 1).toNat : Int))), (16, I ((bits).fdiv (2 ^ (min (((i3 : Nat) : Int)).toNat 64)))), (15, I ((i3 : Nat) : Int)), (14, I bits), (11, B true), (10, I ((e.items.l.length : Nat) : Int)), (9, .sl e.items.nl (e.items.l.map S_Item.D) (zsl e.items.nl 4) none), (8, .lref 0 0 3 0), (7, I ((i3 : Nat) : Int)), (1, I bits), (2, .lref 0 0 3 0), (5, .lsl 1 0 va3_0.length 1 none), (6, I ((i3 : Nat) : Int))], [(0, ⟨[.agg [.sl e.items.nl (e.items.l.map S_Item.D) (zsl e.items.nl 4) none, I e.whole.lo, I e.whole.hi]], 3, false⟩), (2, ⟨[I ((i3 : Nat) : Int)], 1, false⟩), (3, ⟨(va3_0 ++ [((i3 : Nat) : Int)]).map I, 1, false⟩)], 4, 0⟩

def sd20115 (e : S_Estate) (bits : Int) (i3 : Nat) (va3_0 : List Int) : St := ⟨24, [(6, I ((i3 + 1 : Nat) : Int)), (13, I ((i3 + 1 : Nat) : Int)), (12, I ((i3 : Nat) : Int)), (18, B false), (17, I (w64 ((BitVec.ofInt 64 ((bits).fdiv (2 ^ (min (((i3 : Nat) : Int)).toNat 64))) &&& BitVec.ofInt 64 1).toNat : Int))), (16, I ((bits).fdiv (2 ^ (min (((i3 : Nat) : Int)).toNat 64)))), (15, I ((i3 : Nat) : Int)), (14, I bits), (11, B true), (10, I ((e.items.l.length : Nat) : Int)), (9, .sl e.items.nl (e.items.l.map S_Item.D) (zsl e.items.nl 4) none), (8, .lref 0 0 3 0), (7, I ((i3 : Nat) : Int)), (1, I bits), (2, .lref 0 0 3 0), (5, .lsl 1 0 va3_0.length 1 none), (6, I ((i3 : Nat) : Int))], [(0, ⟨[.agg [.sl e.items.nl (e.items.l.map S_Item.D) (zsl e.items.nl 4) none, I e.whole.lo, I e.whole.hi]], 3, false⟩), (1, ⟨va3_0.map I, 1, false⟩)], 2, 0⟩

inductive LR_r_Chosen_3 where
  | x0 (va3_0 : List Int)
  | x1
instance : Inhabited LR_r_Chosen_3 := ⟨.x0 default⟩
def r_Chosen_3a (bits : Int) : List S_Item → Nat → (List Int) → LR_r_Chosen_3
  | [], i3, va3_0 => .x0 va3_0
  | x3 :: rest3, i3, va3_0 =>
    bif ((w64 ((BitVec.ofInt 64 ((bits).fdiv (2 ^ (min (((i3 : Nat) : Int)).toNat 64))) &&& BitVec.ofInt 64 1).toNat : Int)) == 1) then
      r_Chosen_3a bits rest3 (i3 + 1) (va3_0 ++ [((i3 : Nat) : Int)])
    else
      r_Chosen_3a bits rest3 (i3 + 1) va3_0
def r_Chosen_3 (bits : Int) : List S_Item → Nat → LR_r_Chosen_3
  | [], i3 => .x1
  | x3 :: rest3, i3 =>
    bif ((w64 ((BitVec.ofInt 64 ((bits).fdiv (2 ^ (min (((i3 : Nat) : Int)).toNat 64))) &&& BitVec.ofInt 64 1).toNat : Int)) == 1) then
      r_Chosen_3a bits rest3 (i3 + 1) [((i3 : Nat) : Int)]
    else
      r_Chosen_3 bits rest3 (i3 + 1)
def lr_r_Chosen_3 (e : S_Estate) (bits : Int) : LR_r_Chosen_3 → Exit × St
  | .x0 va3_0 => ((.exit 0), ⟨24, [(11, B false), (10, I ((e.items.l.length : Nat) : Int)), (9, .sl e.items.nl (e.items.l.map S_Item.D) (zsl e.items.nl 4) none), (8, .lref 0 0 3 0), (7, I ((e.items.l.length : Nat) : Int)), (1, I bits), (2, .lref 0 0 3 0), (5, .lsl 1 0 va3_0.length 1 none), (6, I ((e.items.l.length : Nat) : Int))], [(0, ⟨[.agg [.sl e.items.nl (e.items.l.map S_Item.D) (zsl e.items.nl 4) none, I e.whole.lo, I e.whole.hi]], 3, false⟩), (1, ⟨va3_0.map I, 1, false⟩)], 2, 0⟩)
  | .x1 => ((.exit 0), ⟨24, [(11, B false), (10, I ((e.items.l.length : Nat) : Int)), (9, .sl e.items.nl (e.items.l.map S_Item.D) (zsl e.items.nl 4) none), (8, .lref 0 0 3 0), (7, I ((e.items.l.length : Nat) : Int)), (1, I bits), (2, .lref 0 0 3 0), (5, .sl true [] 0 none), (6, I ((e.items.l.length : Nat) : Int))], [(0, ⟨[.agg [.sl e.items.nl (e.items.l.map S_Item.D) (zsl e.items.nl 4) none, I e.whole.lo, I e.whole.hi]], 3, false⟩)], 1, 0⟩)
def iv_r_Chosen_3 (e : S_Estate) (bits : Int) : LR_r_Chosen_3 → Prop
  | .x0 va3_0 => (va3_0.length ≤ e.items.l.length)
  | .x1 => True
theorem lp_r_Chosen_3a (e : S_Estate) (bits : Int) : ∀ (rest3 : List S_Item) (i3 : Nat) (va3_0 : List Int) (hd3 : e.items.l.drop i3 = rest3) (hi3 : i3 ≤ e.items.l.length) (hle : e.items.l.length ≤ 12) (hg3_va3_0 : va3_0.length ≤ i3) (hL3 : e.items.l.length ≤ 1099511627776), (lim cfg).loop 62 lp62_3 ⟨24, [(1, I bits), (2, .lref 0 0 3 0), (5, .lsl 1 0 va3_0.length 1 none), (6, I ((i3 : Nat) : Int))], [(0, ⟨[.agg [.sl e.items.nl (e.items.l.map S_Item.D) (zsl e.items.nl 4) none, I e.whole.lo, I e.whole.hi]], 3, false⟩), (1, ⟨va3_0.map I, 1, false⟩)], 2, 0⟩ = some (lr_r_Chosen_3 e bits (r_Chosen_3a bits rest3 i3 va3_0)) := by
  intro rest3
  induction rest3 with
  | nil =>
    intro i3 va3_0 hd3 hi3 hle hg3_va3_0 hL3
    unfold r_Chosen_3a
    obtain rfl : i3 = e.items.l.length := nil_eq hd3 hi3
    exact zO [.rw 10 (I ((e.items.l.length : Nat) : Int)), .dec false] (And.intro (lt_no hd3) (And.intro (zh S_Item.D e.items) trivial)) (by kernel_rfl)
  | cons x3 rest3 ih =>
    intro i3 va3_0 hd3 hi3 hle hg3_va3_0 hL3
    have hlt3 := zr hd3
    unfold r_Chosen_3a
    cases h3 : ((w64 ((BitVec.ofInt 64 ((bits).fdiv (2 ^ (min (((i3 : Nat) : Int)).toNat 64))) &&& BitVec.ofInt 64 1).toNat : Int)) == 1) with
    | true =>
      exact po_turn' (ks := [1, 2, 5, 6]) (st' := (sd20114 e bits i3 va3_0)) [.rw 10 (I ((e.items.l.length : Nat) : Int)), .dec true, .op (some 16) ⟨I ((bits).fdiv (2 ^ (min (((i3 : Nat) : Int)).toNat 64))), [], [], 2⟩, .dec true, .op (some 22) ⟨.lsl 3 0 ((va3_0 ++ [((i3 : Nat) : Int)]).length) 1 none, [(1, none), (3, some ⟨(va3_0 ++ [((i3 : Nat) : Int)]).map I, 1, false⟩)], [1, 2], 4⟩, .rw 13 (I ((i3 + 1 : Nat) : Int))] (And.intro (yb (i := i3) (by have := zr hd3; omega)) (And.intro (app_row (f := I) (te := ty3) (gO := zD [(0, ⟨[.agg [.sl e.items.nl (e.items.l.map S_Item.D) (zsl e.items.nl 4) none, I e.whole.lo, I e.whole.hi]], 3, false⟩), (1, ⟨va3_0.map I, 1, false⟩), (2, ⟨[I ((i3 : Nat) : Int)], 1, false⟩)]) (nxt := 3) (o := 1) (o2 := 2) (fz := false) zU va3_0 ((i3 : Nat) : Int) (by kernel_rfl) (by kernel_rfl) rfl (by kernel_rfl) (by decide) ⟨by simp only [ty3, big] <;> (first | assumption | omega | (with_reducible exact zc) | (with_reducible exact Nat.le_trans zq (by omega)) | (with_reducible exact Nat.le_trans zo (by omega)) | (with_reducible exact Nat.le_trans zp (by omega)) | (with_reducible exact zz) | (with_reducible exact zy (by omega)) | (with_reducible exact zx (by assumption) (by omega)) | (simp only [z8] at * <;> omega) | (simp only [z7, z6, z5, GS.nil_len, GS.some_l, List.length_set, List.length_append, List.length_cons, List.length_nil] at * <;> first | with_reducible assumption | omega) | (simp only [z7, z6, z5, GS.nil_len, GS.some_l, List.length_set, List.length_append, List.length_cons, List.length_nil, z8] at * <;> first | with_reducible assumption | omega) | (simp at * <;> omega)), by simp only [big] <;> (first | assumption | omega | (with_reducible exact zc) | (with_reducible exact Nat.le_trans zq (by omega)) | (with_reducible exact Nat.le_trans zo (by omega)) | (with_reducible exact Nat.le_trans zp (by omega)) | (with_reducible exact zz) | (with_reducible exact zy (by omega)) | (with_reducible exact zx (by assumption) (by omega)) | (simp only [z8] at * <;> omega) | (simp only [z7, z6, z5, GS.nil_len, GS.some_l, List.length_set, List.length_append, List.length_cons, List.length_nil] at * <;> first | with_reducible assumption | omega) | (simp only [z7, z6, z5, GS.nil_len, GS.some_l, List.length_set, List.length_append, List.length_cons, List.length_nil, z8] at * <;> first | with_reducible assumption | omega) | (simp at * <;> omega))⟩) (And.intro h3 (And.intro (shr_op (C := cfg) (t := 3) (cst := false) (nxt := 2) (a := bits) (b := ((i3 : Nat) : Int)) (by first | assumption | omega)) (And.intro (lt_at hd3) (And.intro (zh S_Item.D e.items) trivial)))))) (by kernel_rfl) (by (simp only [sd20114, go_sem, Nat.reduceAdd, Nat.reduceEqDiff, Nat.reduceLT, Nat.reduceLeDiff, bI2, zU.idsL, zU.renL, zU.snapAll, zg.idsL, zg.renL, zg.snapAll]) <;> rfl) (ih (i3 + 1) (va3_0 ++ [((i3 : Nat) : Int)]) (zJ hd3) (zr hd3) (by first | assumption | omega) (by first | assumption | omega | (with_reducible exact zc) | (with_reducible exact Nat.le_trans zq (by omega)) | (with_reducible exact Nat.le_trans zo (by omega)) | (with_reducible exact Nat.le_trans zp (by omega)) | (with_reducible exact zz) | (with_reducible exact zy (by omega)) | (with_reducible exact zx (by assumption) (by omega)) | (simp only [z8] at * <;> omega) | (simp only [z7, z6, z5, GS.nil_len, GS.some_l, List.length_set, List.length_append, List.length_cons, List.length_nil] at * <;> first | with_reducible assumption | omega) | (simp only [z7, z6, z5, GS.nil_len, GS.some_l, List.length_set, List.length_append, List.length_cons, List.length_nil, z8] at * <;> first | with_reducible assumption | omega) | (simp at * <;> omega)) (by first | assumption | omega)) (by kernel_rfl)
    | false =>
      exact po_turn' (ks := [1, 2, 5, 6]) (st' := (sd20115 e bits i3 va3_0)) [.rw 10 (I ((e.items.l.length : Nat) : Int)), .dec true, .op (some 16) ⟨I ((bits).fdiv (2 ^ (min (((i3 : Nat) : Int)).toNat 64))), [], [], 2⟩, .dec false, .rw 13 (I ((i3 + 1 : Nat) : Int))] (And.intro (yb (i := i3) (by have := zr hd3; omega)) (And.intro h3 (And.intro (shr_op (C := cfg) (t := 3) (cst := false) (nxt := 2) (a := bits) (b := ((i3 : Nat) : Int)) (by first | assumption | omega)) (And.intro (lt_at hd3) (And.intro (zh S_Item.D e.items) trivial))))) (by kernel_rfl) (by (simp only [sd20115, go_sem, Nat.reduceAdd, Nat.reduceEqDiff, Nat.reduceLT, Nat.reduceLeDiff, bI2, zU.idsL, zU.renL, zU.snapAll, zg.idsL, zg.renL, zg.snapAll]) <;> rfl) (ih (i3 + 1) va3_0 (zJ hd3) (zr hd3) (by first | assumption | omega) (by first | assumption | omega) (by first | assumption | omega)) (by kernel_rfl)
theorem ivt_r_Chosen_3a (e : S_Estate) (bits : Int) : ∀ (rest3 : List S_Item) (i3 : Nat) (va3_0 : List Int) (hd3 : e.items.l.drop i3 = rest3) (hi3 : i3 ≤ e.items.l.length) (hle : e.items.l.length ≤ 12) (hg3_va3_0 : va3_0.length ≤ i3) (hL3 : e.items.l.length ≤ 1099511627776), iv_r_Chosen_3 e bits (r_Chosen_3a bits rest3 i3 va3_0) := by
  intro rest3
  induction rest3 with
  | nil =>
    intro i3 va3_0 hd3 hi3 hle hg3_va3_0 hL3
    unfold r_Chosen_3a
    obtain rfl : i3 = e.items.l.length := nil_eq hd3 hi3
    exact hg3_va3_0
  | cons x3 rest3 ih =>
    intro i3 va3_0 hd3 hi3 hle hg3_va3_0 hL3
    have hlt3 := zr hd3
    unfold r_Chosen_3a
    cases h3 : ((w64 ((BitVec.ofInt 64 ((bits).fdiv (2 ^ (min (((i3 : Nat) : Int)).toNat 64))) &&& BitVec.ofInt 64 1).toNat : Int)) == 1) with
    | true =>
      exact ih (i3 + 1) (va3_0 ++ [((i3 : Nat) : Int)]) (zJ hd3) (zr hd3) (by first | assumption | omega) (by first | assumption | omega | (with_reducible exact zc) | (with_reducible exact Nat.le_trans zq (by omega)) | (with_reducible exact Nat.le_trans zo (by omega)) | (with_reducible exact Nat.le_trans zp (by omega)) | (with_reducible exact zz) | (with_reducible exact zy (by omega)) | (with_reducible exact zx (by assumption) (by omega)) | (simp only [z8] at * <;> omega) | (simp only [z7, z6, z5, GS.nil_len, GS.some_l, List.length_set, List.length_append, List.length_cons, List.length_nil] at * <;> first | with_reducible assumption | omega) | (simp only [z7, z6, z5, GS.nil_len, GS.some_l, List.length_set, List.length_append, List.length_cons, List.length_nil, z8] at * <;> first | with_reducible assumption | omega) | (simp at * <;> omega)) (by first | assumption | omega)
    | false =>
      exact ih (i3 + 1) va3_0 (zJ hd3) (zr hd3) (by first | assumption | omega) (by first | assumption | omega) (by first | assumption | omega)
theorem lp_r_Chosen_3 (e : S_Estate) (bits : Int) : ∀ (rest3 : List S_Item) (i3 : Nat) (hd3 : e.items.l.drop i3 = rest3) (hi3 : i3 ≤ e.items.l.length) (hle : e.items.l.length ≤ 12) (hL3 : e.items.l.length ≤ 1099511627776), (lim cfg).loop 62 lp62_3 ⟨24, [(1, I bits), (2, .lref 0 0 3 0), (5, .sl true [] 0 none), (6, I ((i3 : Nat) : Int))], [(0, ⟨[.agg [.sl e.items.nl (e.items.l.map S_Item.D) (zsl e.items.nl 4) none, I e.whole.lo, I e.whole.hi]], 3, false⟩)], 1, 0⟩ = some (lr_r_Chosen_3 e bits (r_Chosen_3 bits rest3 i3)) := by
  intro rest3
  induction rest3 with
  | nil =>
    intro i3 hd3 hi3 hle hL3
    unfold r_Chosen_3
    obtain rfl : i3 = e.items.l.length := nil_eq hd3 hi3
    exact zO [.rw 10 (I ((e.items.l.length : Nat) : Int)), .dec false] (And.intro (lt_no hd3) (And.intro (zh S_Item.D e.items) trivial)) (by kernel_rfl)
  | cons x3 rest3 ih =>
    intro i3 hd3 hi3 hle hL3
    have hlt3 := zr hd3
    unfold r_Chosen_3
    cases h4 : ((w64 ((BitVec.ofInt 64 ((bits).fdiv (2 ^ (min (((i3 : Nat) : Int)).toNat 64))) &&& BitVec.ofInt 64 1).toNat : Int)) == 1) with
    | true =>
      exact po_turn [.rw 10 (I ((e.items.l.length : Nat) : Int)), .dec true, .op (some 16) ⟨I ((bits).fdiv (2 ^ (min (((i3 : Nat) : Int)).toNat 64))), [], [], 1⟩, .dec true, .rw 13 (I ((i3 + 1 : Nat) : Int))] (And.intro (yb (i := i3) (by have := zr hd3; omega)) (And.intro h4 (And.intro (shr_op (C := cfg) (t := 3) (cst := false) (nxt := 1) (a := bits) (b := ((i3 : Nat) : Int)) (by first | assumption | omega)) (And.intro (lt_at hd3) (And.intro (zh S_Item.D e.items) trivial))))) (lp_r_Chosen_3a e bits _ (i3 + 1) [((i3 : Nat) : Int)] (zJ hd3) (zr hd3) (by first | assumption | omega) (by first | assumption | omega | (with_reducible exact zc) | (with_reducible exact Nat.le_trans zq (by omega)) | (with_reducible exact Nat.le_trans zo (by omega)) | (with_reducible exact Nat.le_trans zp (by omega)) | (with_reducible exact zz) | (with_reducible exact zy (by omega)) | (with_reducible exact zx (by assumption) (by omega)) | (simp only [z8] at * <;> omega) | (simp only [z7, z6, z5, GS.nil_len, GS.some_l, List.length_set, List.length_append, List.length_cons, List.length_nil] at * <;> first | with_reducible assumption | omega) | (simp only [z7, z6, z5, GS.nil_len, GS.some_l, List.length_set, List.length_append, List.length_cons, List.length_nil, z8] at * <;> first | with_reducible assumption | omega) | (simp at * <;> omega)) (by first | assumption | omega)) (by kernel_rfl)
    | false =>
      exact po_turn [.rw 10 (I ((e.items.l.length : Nat) : Int)), .dec true, .op (some 16) ⟨I ((bits).fdiv (2 ^ (min (((i3 : Nat) : Int)).toNat 64))), [], [], 1⟩, .dec false, .rw 13 (I ((i3 + 1 : Nat) : Int))] (And.intro (yb (i := i3) (by have := zr hd3; omega)) (And.intro h4 (And.intro (shr_op (C := cfg) (t := 3) (cst := false) (nxt := 1) (a := bits) (b := ((i3 : Nat) : Int)) (by first | assumption | omega)) (And.intro (lt_at hd3) (And.intro (zh S_Item.D e.items) trivial))))) (ih (i3 + 1) (zJ hd3) (zr hd3) (by first | assumption | omega) (by first | assumption | omega)) (by kernel_rfl)
theorem ivt_r_Chosen_3 (e : S_Estate) (bits : Int) : ∀ (rest3 : List S_Item) (i3 : Nat) (hd3 : e.items.l.drop i3 = rest3) (hi3 : i3 ≤ e.items.l.length) (hle : e.items.l.length ≤ 12) (hL3 : e.items.l.length ≤ 1099511627776), iv_r_Chosen_3 e bits (r_Chosen_3 bits rest3 i3) := by
  intro rest3
  induction rest3 with
  | nil =>
    intro i3 hd3 hi3 hle hL3
    unfold r_Chosen_3
    obtain rfl : i3 = e.items.l.length := nil_eq hd3 hi3
    exact trivial
  | cons x3 rest3 ih =>
    intro i3 hd3 hi3 hle hL3
    have hlt3 := zr hd3
    unfold r_Chosen_3
    cases h4 : ((w64 ((BitVec.ofInt 64 ((bits).fdiv (2 ^ (min (((i3 : Nat) : Int)).toNat 64))) &&& BitVec.ofInt 64 1).toNat : Int)) == 1) with
    | true =>
      exact ivt_r_Chosen_3a e bits _ (i3 + 1) [((i3 : Nat) : Int)] (zJ hd3) (zr hd3) (by first | assumption | omega) (by first | assumption | omega | (with_reducible exact zc) | (with_reducible exact Nat.le_trans zq (by omega)) | (with_reducible exact Nat.le_trans zo (by omega)) | (with_reducible exact Nat.le_trans zp (by omega)) | (with_reducible exact zz) | (with_reducible exact zy (by omega)) | (with_reducible exact zx (by assumption) (by omega)) | (simp only [z8] at * <;> omega) | (simp only [z7, z6, z5, GS.nil_len, GS.some_l, List.length_set, List.length_append, List.length_cons, List.length_nil] at * <;> first | with_reducible assumption | omega) | (simp only [z7, z6, z5, GS.nil_len, GS.some_l, List.length_set, List.length_append, List.length_cons, List.length_nil, z8] at * <;> first | with_reducible assumption | omega) | (simp at * <;> omega)) (by first | assumption | omega)
    | false =>
      exact ih (i3 + 1) (zJ hd3) (zr hd3) (by first | assumption | omega) (by first | assumption | omega)

def y9 (e : S_Estate) (bits : Int) : (GS Int) :=
  match r_Chosen_3 bits e.items.l 0 with
  | .x0 va3_0 =>
    GS.some va3_0
  | .x1 =>
    GS.nil

def sd20116 (e : S_Estate) (bits : Int) (va3_0 : List Int) : St := ⟨24, [(11, B false), (10, I ((e.items.l.length : Nat) : Int)), (9, .sl e.items.nl (e.items.l.map S_Item.D) (zsl e.items.nl 4) none), (8, .lref 0 0 3 0), (7, I ((e.items.l.length : Nat) : Int)), (1, I bits), (2, .lref 0 0 3 0), (5, .lsl 1 0 va3_0.length 1 none), (6, I ((e.items.l.length : Nat) : Int))], [(0, ⟨[.agg [.sl e.items.nl (e.items.l.map S_Item.D) (zsl e.items.nl 4) none, I e.whole.lo, I e.whole.hi]], 3, false⟩), (1, ⟨va3_0.map I, 1, false⟩)], 2, 0⟩

def sd20117 (e : S_Estate) (bits : Int) : St := ⟨24, [(11, B false), (10, I ((e.items.l.length : Nat) : Int)), (9, .sl e.items.nl (e.items.l.map S_Item.D) (zsl e.items.nl 4) none), (8, .lref 0 0 3 0), (7, I ((e.items.l.length : Nat) : Int)), (1, I bits), (2, .lref 0 0 3 0), (5, .sl true [] 0 none), (6, I ((e.items.l.length : Nat) : Int))], [(0, ⟨[.agg [.sl e.items.nl (e.items.l.map S_Item.D) (zsl e.items.nl 4) none, I e.whole.lo, I e.whole.hi]], 3, false⟩)], 1, 0⟩

theorem T_r_Chosen (e : S_Estate) (bits : Int) (hle : e.items.l.length ≤ 12) (hL_e_items : e.items.l.length ≤ 1099511627776) : (lim cfg).pure 62 [S_Estate.D e, I bits] = some (GS.D I 1 (y9 e bits)) := by
  unfold y9
  cases h5 : r_Chosen_3 bits e.items.l 0 with
  | x0 va3_0 =>
    try dsimp only
    have hv_h5 := ivt_r_Chosen_3 e bits e.items.l 0 (List.drop_zero) (Nat.zero_le _) (by first | assumption | omega) (by first | assumption | omega)
    rw [h5] at hv_h5
    have hv_h5_0 := hv_h5
    try dsimp only [iv_r_Chosen_3] at hv_h5_0
    exact po_pureS [.loop (.exit 0) (sd20116 e bits va3_0)] [(1, .sl false (va3_0.map I) 1 none, [1])] (And.intro (snap_row (gO := zD [(0, ⟨[.agg [.sl e.items.nl (e.items.l.map S_Item.D) (zsl e.items.nl 4) none, I e.whole.lo, I e.whole.hi]], 3, false⟩), (1, ⟨va3_0.map I, 1, false⟩)]) (o := 1) (len := va3_0.length) (cap := none) (fz := false) zU va3_0 (by kernel_rfl) (by first | assumption | omega)) (And.intro (po_lr (q := lr_r_Chosen_3 e bits) (lp_r_Chosen_3 e bits e.items.l 0 (List.drop_zero) (Nat.zero_le _) (by first | assumption | omega) (by first | assumption | omega)) h5) trivial)) (by kernel_rfl)
  | x1 =>
    try dsimp only
    exact za [.loop (.exit 0) (sd20117 e bits)] (And.intro (po_lr (q := lr_r_Chosen_3 e bits) (lp_r_Chosen_3 e bits e.items.l 0 (List.drop_zero) (Nat.zero_le _) (by first | assumption | omega) (by first | assumption | omega)) h5) trivial) (by kernel_rfl)

noncomputable def lp63_6 : Code := subC [1, 1, 1, 0, 1, 0, 0] (bodyC Tryz.f63)

inductive LR_r_Less_6 where
  | x0
  | x1 (i6 : Nat) (x6 : Int)
  | x2 (i6 : Nat) (x6 : Int)
instance : Inhabited LR_r_Less_6 := ⟨.x0⟩
def r_Less_6 (b : GS Int) : List Int → Nat → LR_r_Less_6
  | [], i6 => .x0
  | x6 :: rest6, i6 =>
    bif (x6 != (GS.at b ((i6 : Nat) : Int))) then
      bif decide (x6 < (GS.at b ((i6 : Nat) : Int))) then
        .x1 i6 x6
      else
        .x2 i6 x6
    else
      r_Less_6 b rest6 (i6 + 1)
def lr_r_Less_6 (a : GS Int) (b : GS Int) : LR_r_Less_6 → Exit × St
  | .x0 => ((.exit 0), ⟨56, [(35, B false), (34, I ((a.l.length : Nat) : Int)), (33, .sl a.nl (a.l.map I) (zsl a.nl 1) none), (32, I ((a.l.length : Nat) : Int)), (1, .sl a.nl (a.l.map I) (zsl a.nl 1) none), (2, .sl b.nl (b.l.map I) (zsl b.nl 1) none), (7, I ((a.l.length : Nat) : Int))], [], 0, 0⟩)
  | .x1 i6 x6 => (.ret, ⟨56, [(6, B true), (55, B true), (54, I (GS.at b ((i6 : Nat) : Int))), (53, .ptr (I (GS.at b ((i6 : Nat) : Int)))), (52, I ((i6 : Nat) : Int)), (51, .sl b.nl (b.l.map I) (zsl b.nl 1) none), (50, I x6), (49, .ptr (I x6)), (48, I ((i6 : Nat) : Int)), (47, .sl a.nl (a.l.map I) (zsl a.nl 1) none), (46, B true), (45, I (GS.at b ((i6 : Nat) : Int))), (44, .ptr (I (GS.at b ((i6 : Nat) : Int)))), (43, I ((i6 : Nat) : Int)), (42, .sl b.nl (b.l.map I) (zsl b.nl 1) none), (41, I x6), (40, .ptr (I x6)), (39, I ((i6 : Nat) : Int)), (38, .sl a.nl (a.l.map I) (zsl a.nl 1) none), (35, B true), (34, I ((a.l.length : Nat) : Int)), (33, .sl a.nl (a.l.map I) (zsl a.nl 1) none), (32, I ((i6 : Nat) : Int)), (1, .sl a.nl (a.l.map I) (zsl a.nl 1) none), (2, .sl b.nl (b.l.map I) (zsl b.nl 1) none), (7, I ((i6 : Nat) : Int))], [], 0, 0⟩)
  | .x2 i6 x6 => (.ret, ⟨56, [(6, B false), (55, B false), (54, I (GS.at b ((i6 : Nat) : Int))), (53, .ptr (I (GS.at b ((i6 : Nat) : Int)))), (52, I ((i6 : Nat) : Int)), (51, .sl b.nl (b.l.map I) (zsl b.nl 1) none), (50, I x6), (49, .ptr (I x6)), (48, I ((i6 : Nat) : Int)), (47, .sl a.nl (a.l.map I) (zsl a.nl 1) none), (46, B true), (45, I (GS.at b ((i6 : Nat) : Int))), (44, .ptr (I (GS.at b ((i6 : Nat) : Int)))), (43, I ((i6 : Nat) : Int)), (42, .sl b.nl (b.l.map I) (zsl b.nl 1) none), (41, I x6), (40, .ptr (I x6)), (39, I ((i6 : Nat) : Int)), (38, .sl a.nl (a.l.map I) (zsl a.nl 1) none), (35, B true), (34, I ((a.l.length : Nat) : Int)), (33, .sl a.nl (a.l.map I) (zsl a.nl 1) none), (32, I ((i6 : Nat) : Int)), (1, .sl a.nl (a.l.map I) (zsl a.nl 1) none), (2, .sl b.nl (b.l.map I) (zsl b.nl 1) none), (7, I ((i6 : Nat) : Int))], [], 0, 0⟩)
def r_Less_6_l_o1 (a : GS Int) (b : GS Int) (i6 : Nat) (x6 : Int) : List Ora := [.rw 34 (I ((a.l.length : Nat) : Int)), .dec true, .el (I x6), .el (I (GS.at b ((i6 : Nat) : Int))), .dec true, .el (I x6), .el (I (GS.at b ((i6 : Nat) : Int)))]
theorem lp_r_Less_6 (a : GS Int) (b : GS Int) : ∀ (rest6 : List Int) (i6 : Nat) (hd6 : a.l.drop i6 = rest6) (hi6 : i6 ≤ a.l.length) (hS : a.l.length = b.l.length) (hL6 : a.l.length ≤ 9223372036854775807), (lim cfg).loop 63 lp63_6 ⟨56, [(1, .sl a.nl (a.l.map I) (zsl a.nl 1) none), (2, .sl b.nl (b.l.map I) (zsl b.nl 1) none), (7, I ((i6 : Nat) : Int))], [], 0, 0⟩ = some (lr_r_Less_6 a b (r_Less_6 b rest6 i6)) := by
  intro rest6
  induction rest6 with
  | nil =>
    intro i6 hd6 hi6 hS hL6
    unfold r_Less_6
    obtain rfl : i6 = a.l.length := nil_eq hd6 hi6
    exact zO [.rw 34 (I ((a.l.length : Nat) : Int)), .dec false] (And.intro (lt_no hd6) (And.intro (zh I a) trivial)) (by kernel_rfl)
  | cons x6 rest6 ih =>
    intro i6 hd6 hi6 hS hL6
    have hlt6 := zr hd6
    unfold r_Less_6
    have p1 := (el_in (s := b) (f := I) (k := 1) (i := ((i6 : Nat) : Int)) (by first | assumption | omega) (by first | assumption | omega))
    cases h7 : (x6 != (GS.at b ((i6 : Nat) : Int))) with
    | true =>
      have g7 := bne_true h7
      have p2 := (el_in (s := b) (f := I) (k := 1) (i := ((i6 : Nat) : Int)) (by first | assumption | omega) (by first | assumption | omega))
      cases h8 : decide (x6 < (GS.at b ((i6 : Nat) : Int))) with
      | true =>
        have g8 := of_decide_eq_true h8
        exact zO ((r_Less_6_l_o1 a b i6 x6) ++ [.dec true]) (And.intro h8 (And.intro p2 (And.intro (el_at (s := a) (f := I) (k := 1) hd6) (And.intro h7 (And.intro p1 (And.intro (el_at (s := a) (f := I) (k := 1) hd6) (And.intro (lt_at hd6) (And.intro (zh I a) trivial)))))))) (by kernel_rfl)
      | false =>
        have g8 := of_decide_eq_false h8
        exact zO ((r_Less_6_l_o1 a b i6 x6) ++ [.dec false]) (And.intro h8 (And.intro p2 (And.intro (el_at (s := a) (f := I) (k := 1) hd6) (And.intro h7 (And.intro p1 (And.intro (el_at (s := a) (f := I) (k := 1) hd6) (And.intro (lt_at hd6) (And.intro (zh I a) trivial)))))))) (by kernel_rfl)
    | false =>
      have g7 := bne_false h7
      exact po_turn [.rw 34 (I ((a.l.length : Nat) : Int)), .dec true, .el (I x6), .el (I (GS.at b ((i6 : Nat) : Int))), .dec false, .rw 37 (I ((i6 + 1 : Nat) : Int))] (And.intro (yb (i := i6) (by have := zr hd6; omega)) (And.intro h7 (And.intro p1 (And.intro (el_at (s := a) (f := I) (k := 1) hd6) (And.intro (lt_at hd6) (And.intro (zh I a) trivial)))))) (ih (i6 + 1) (zJ hd6) (zr hd6) (by first | assumption | omega) (by first | assumption | omega)) (by kernel_rfl)

def r_Less (e : S_Estate) (a : GS Int) (b : GS Int) : Bool :=
  bif ((r_costs e a) != (r_costs e b)) then
    bif decide ((r_costs e a) < (r_costs e b)) then
      true
    else
      false
  else
    bif (((a.l.length : Nat) : Int) != ((b.l.length : Nat) : Int)) then
      bif decide (((a.l.length : Nat) : Int) < ((b.l.length : Nat) : Int)) then
        true
      else
        false
    else
      match r_Less_6 b a.l 0 with
      | .x0 =>
        false
      | .x1 i6 x6 =>
        true
      | .x2 i6 x6 =>
        false

def r_Less_o1 (e : S_Estate) (a : GS Int) (b : GS Int) : List Ora := [.pure (I (r_costs e a)), .pure (I (r_costs e b)), .dec false, .rw 23 (I ((a.l.length : Nat) : Int)), .rw 25 (I ((b.l.length : Nat) : Int))]

def sd20118 (a : GS Int) (b : GS Int) : St := ⟨56, [(35, B false), (34, I ((a.l.length : Nat) : Int)), (33, .sl a.nl (a.l.map I) (zsl a.nl 1) none), (32, I ((a.l.length : Nat) : Int)), (1, .sl a.nl (a.l.map I) (zsl a.nl 1) none), (2, .sl b.nl (b.l.map I) (zsl b.nl 1) none), (7, I ((a.l.length : Nat) : Int))], [], 0, 0⟩

def sd20119 (a : GS Int) (b : GS Int) (i6 : Nat) (x6 : Int) : St := ⟨56, [(6, B true), (55, B true), (54, I (GS.at b ((i6 : Nat) : Int))), (53, .ptr (I (GS.at b ((i6 : Nat) : Int)))), (52, I ((i6 : Nat) : Int)), (51, .sl b.nl (b.l.map I) (zsl b.nl 1) none), (50, I x6), (49, .ptr (I x6)), (48, I ((i6 : Nat) : Int)), (47, .sl a.nl (a.l.map I) (zsl a.nl 1) none), (46, B true), (45, I (GS.at b ((i6 : Nat) : Int))), (44, .ptr (I (GS.at b ((i6 : Nat) : Int)))), (43, I ((i6 : Nat) : Int)), (42, .sl b.nl (b.l.map I) (zsl b.nl 1) none), (41, I x6), (40, .ptr (I x6)), (39, I ((i6 : Nat) : Int)), (38, .sl a.nl (a.l.map I) (zsl a.nl 1) none), (35, B true), (34, I ((a.l.length : Nat) : Int)), (33, .sl a.nl (a.l.map I) (zsl a.nl 1) none), (32, I ((i6 : Nat) : Int)), (1, .sl a.nl (a.l.map I) (zsl a.nl 1) none), (2, .sl b.nl (b.l.map I) (zsl b.nl 1) none), (7, I ((i6 : Nat) : Int))], [], 0, 0⟩

def sd20120 (a : GS Int) (b : GS Int) (i6 : Nat) (x6 : Int) : St := ⟨56, [(6, B false), (55, B false), (54, I (GS.at b ((i6 : Nat) : Int))), (53, .ptr (I (GS.at b ((i6 : Nat) : Int)))), (52, I ((i6 : Nat) : Int)), (51, .sl b.nl (b.l.map I) (zsl b.nl 1) none), (50, I x6), (49, .ptr (I x6)), (48, I ((i6 : Nat) : Int)), (47, .sl a.nl (a.l.map I) (zsl a.nl 1) none), (46, B true), (45, I (GS.at b ((i6 : Nat) : Int))), (44, .ptr (I (GS.at b ((i6 : Nat) : Int)))), (43, I ((i6 : Nat) : Int)), (42, .sl b.nl (b.l.map I) (zsl b.nl 1) none), (41, I x6), (40, .ptr (I x6)), (39, I ((i6 : Nat) : Int)), (38, .sl a.nl (a.l.map I) (zsl a.nl 1) none), (35, B true), (34, I ((a.l.length : Nat) : Int)), (33, .sl a.nl (a.l.map I) (zsl a.nl 1) none), (32, I ((i6 : Nat) : Int)), (1, .sl a.nl (a.l.map I) (zsl a.nl 1) none), (2, .sl b.nl (b.l.map I) (zsl b.nl 1) none), (7, I ((i6 : Nat) : Int))], [], 0, 0⟩

theorem T_r_Less (e : S_Estate) (a : GS Int) (b : GS Int) (ha : ∀ i ∈ a.l, 0 ≤ i ∧ i < ((e.items.l.length : Nat) : Int)) (hb : ∀ i ∈ b.l, 0 ≤ i ∧ i < ((e.items.l.length : Nat) : Int)) (hLa : a.l.length ≤ 9223372036854775807) (hLb : b.l.length ≤ 9223372036854775807) : (lim cfg).pure 63 [S_Estate.D e, GS.D I 1 a, GS.D I 1 b] = some (B (r_Less e a b)) := by
  unfold r_Less
  have p1 := (T_r_costs e a (by first | assumption | omega) (by first | assumption | omega))
  have p2 := (T_r_costs e b (by first | assumption | omega) (by first | assumption | omega))
  cases h1 : ((r_costs e a) != (r_costs e b)) with
  | true =>
    have g1 := bne_true h1
    have p3 := (T_r_costs e a (by first | assumption | omega) (by first | assumption | omega))
    have p4 := (T_r_costs e b (by first | assumption | omega) (by first | assumption | omega))
    cases h2 : decide ((r_costs e a) < (r_costs e b)) with
    | true =>
      have g2 := of_decide_eq_true h2
      exact za [.pure (I (r_costs e a)), .pure (I (r_costs e b)), .dec true, .pure (I (r_costs e a)), .pure (I (r_costs e b)), .dec true] (And.intro h2 (And.intro p4 (And.intro p3 (And.intro h1 (And.intro p2 (And.intro p1 trivial)))))) (by kernel_rfl)
    | false =>
      have g2 := of_decide_eq_false h2
      exact za [.pure (I (r_costs e a)), .pure (I (r_costs e b)), .dec true, .pure (I (r_costs e a)), .pure (I (r_costs e b)), .dec false] (And.intro h2 (And.intro p4 (And.intro p3 (And.intro h1 (And.intro p2 (And.intro p1 trivial)))))) (by kernel_rfl)
  | false =>
    have g1 := bne_false h1
    cases h3 : (((a.l.length : Nat) : Int) != ((b.l.length : Nat) : Int)) with
    | true =>
      have g3 := bne_true h3
      cases h4 : decide (((a.l.length : Nat) : Int) < ((b.l.length : Nat) : Int)) with
      | true =>
        have g4 := of_decide_eq_true h4
        exact za ((r_Less_o1 e a b) ++ [.dec true, .rw 28 (I ((a.l.length : Nat) : Int)), .rw 30 (I ((b.l.length : Nat) : Int)), .dec true]) (And.intro h4 (And.intro (zh I b) (And.intro (zh I a) (And.intro h3 (And.intro (zh I b) (And.intro (zh I a) (And.intro h1 (And.intro p2 (And.intro p1 trivial))))))))) (by kernel_rfl)
      | false =>
        have g4 := of_decide_eq_false h4
        exact za ((r_Less_o1 e a b) ++ [.dec true, .rw 28 (I ((a.l.length : Nat) : Int)), .rw 30 (I ((b.l.length : Nat) : Int)), .dec false]) (And.intro h4 (And.intro (zh I b) (And.intro (zh I a) (And.intro h3 (And.intro (zh I b) (And.intro (zh I a) (And.intro h1 (And.intro p2 (And.intro p1 trivial))))))))) (by kernel_rfl)
    | false =>
      have g3 := bne_false h3
      cases h9 : r_Less_6 b a.l 0 with
      | x0 =>
        try dsimp only
        exact za ((r_Less_o1 e a b) ++ [.dec false, .loop (.exit 0) (sd20118 a b)]) (And.intro (po_lr (q := lr_r_Less_6 a b) (lp_r_Less_6 a b a.l 0 (List.drop_zero) (Nat.zero_le _) (by first | assumption | omega) (by first | assumption | omega)) h9) (And.intro h3 (And.intro (zh I b) (And.intro (zh I a) (And.intro h1 (And.intro p2 (And.intro p1 trivial))))))) (by kernel_rfl)
      | x1 i6 x6 =>
        try dsimp only
        exact za ((r_Less_o1 e a b) ++ [.dec false, .loop .ret (sd20119 a b i6 x6)]) (And.intro (po_lr (q := lr_r_Less_6 a b) (lp_r_Less_6 a b a.l 0 (List.drop_zero) (Nat.zero_le _) (by first | assumption | omega) (by first | assumption | omega)) h9) (And.intro h3 (And.intro (zh I b) (And.intro (zh I a) (And.intro h1 (And.intro p2 (And.intro p1 trivial))))))) (by kernel_rfl)
      | x2 i6 x6 =>
        try dsimp only
        exact za ((r_Less_o1 e a b) ++ [.dec false, .loop .ret (sd20120 a b i6 x6)]) (And.intro (po_lr (q := lr_r_Less_6 a b) (lp_r_Less_6 a b a.l 0 (List.drop_zero) (Nat.zero_le _) (by first | assumption | omega) (by first | assumption | omega)) h9) (And.intro h3 (And.intro (zh I b) (And.intro (zh I a) (And.intro h1 (And.intro p2 (And.intro p1 trivial))))))) (by kernel_rfl)

def r_bounds (low : Int) (high : Int) : Bool :=
  bif decide (low < high) then
    bif decide (low ≥ (-1099511627776)) then
      bif decide (high ≤ 1099511627776) then
        true
      else
        false
    else
      false
  else
    false

theorem T_r_bounds (low : Int) (high : Int) : (lim cfg).pure 71 [I low, I high] = some (B (r_bounds low high)) := by
  unfold r_bounds
  cases h1 : decide (low < high) with
  | true =>
    have g1 := of_decide_eq_true h1
    cases h2 : decide (low ≥ (-1099511627776)) with
    | true =>
      have g2 := of_decide_eq_true h2
      cases h3 : decide (high ≤ 1099511627776) with
      | true =>
        have g3 := of_decide_eq_true h3
        exact za [.dec true, .dec true, .dec true] (And.intro h3 (And.intro h2 (And.intro h1 trivial))) (by kernel_rfl)
      | false =>
        have g3 := of_decide_eq_false h3
        exact za [.dec true, .dec true, .dec false] (And.intro h3 (And.intro h2 (And.intro h1 trivial))) (by kernel_rfl)
    | false =>
      have g2 := of_decide_eq_false h2
      exact za [.dec true, .dec false] (And.intro h2 (And.intro h1 trivial)) (by kernel_rfl)
  | false =>
    have g1 := of_decide_eq_false h1
    exact za [.dec false] (And.intro h1 trivial) (by kernel_rfl)

def r_opens (e : S_Estate) (t : Int) (low : Int) (high : Int) : Int × Bool :=
  bif decide ((imax ((r_All e).lo) (imax (w64 ((w64 (low + 1)) - t)) (w64 (e.whole.lo - t)))) ≤ (imin (w64 (((r_All e).hi) - t)) (imin (w64 (high - 1)) e.whole.hi))) then
    bif decide (e.whole.lo < high) then
      bif decide (e.whole.hi > low) then
        (imax ((r_All e).lo) (imax (w64 ((w64 (low + 1)) - t)) (w64 (e.whole.lo - t))), true)
      else
        (imax ((r_All e).lo) (imax (w64 ((w64 (low + 1)) - t)) (w64 (e.whole.lo - t))), false)
    else
      (imax ((r_All e).lo) (imax (w64 ((w64 (low + 1)) - t)) (w64 (e.whole.lo - t))), false)
  else
    (imax ((r_All e).lo) (imax (w64 ((w64 (low + 1)) - t)) (w64 (e.whole.lo - t))), false)

theorem T_r_opens (e : S_Estate) (t : Int) (low : Int) (high : Int) (hL_e_items : e.items.l.length ≤ 9223372036854775807) : (lim cfg).pure 72 [S_Estate.D e, I t, I low, I high] = some (.tup [I ((r_opens e t low high).1), B ((r_opens e t low high).2)]) := by
  unfold r_opens
  cases h1 : decide ((imax ((r_All e).lo) (imax (w64 ((w64 (low + 1)) - t)) (w64 (e.whole.lo - t)))) ≤ (imin (w64 (((r_All e).hi) - t)) (imin (w64 (high - 1)) e.whole.hi))) with
  | true =>
    have g1 := of_decide_eq_true h1
    cases h2 : decide (e.whole.lo < high) with
    | true =>
      have g2 := of_decide_eq_true h2
      cases h3 : decide (e.whole.hi > low) with
      | true =>
        have g3 := of_decide_eq_true h3
        exact za [.pure (.agg [I ((r_All e).lo), I ((r_All e).hi)]), .dec true, .dec true, .dec true] (And.intro h3 (And.intro h2 (And.intro h1 (And.intro (T_r_All e (by first | assumption | omega)) trivial)))) (by kernel_rfl)
      | false =>
        have g3 := of_decide_eq_false h3
        exact za [.pure (.agg [I ((r_All e).lo), I ((r_All e).hi)]), .dec true, .dec true, .dec false] (And.intro h3 (And.intro h2 (And.intro h1 (And.intro (T_r_All e (by first | assumption | omega)) trivial)))) (by kernel_rfl)
    | false =>
      have g2 := of_decide_eq_false h2
      exact za [.pure (.agg [I ((r_All e).lo), I ((r_All e).hi)]), .dec true, .dec false] (And.intro h2 (And.intro h1 (And.intro (T_r_All e (by first | assumption | omega)) trivial))) (by kernel_rfl)
  | false =>
    have g1 := of_decide_eq_false h1
    exact za [.pure (.agg [I ((r_All e).lo), I ((r_All e).hi)]), .dec false] (And.intro h1 (And.intro (T_r_All e (by first | assumption | omega)) trivial)) (by kernel_rfl)

def r_Decides (e : S_Estate) (items : GS Int) (low : Int) (high : Int) : Bool × Int :=
  bif ((r_first e items) != 0) then
    (false, (r_first e items))
  else
    bif (r_bounds low high) then
      bif ((r_opens e (w64 ((r_Total e) - (r_gains e items))) low high).2) then
        (false, 0)
      else
        (true, 0)
    else
      (false, 1)

def r_Decides_o1 (e : S_Estate) (items : GS Int) (low : Int) (high : Int) : List Ora := [.pure (I (r_first e items)), .dec false, .pure (B (r_bounds low high)), .dec true, .pure (I (r_Total e)), .pure (I (r_gains e items)), .pure (.tup [I ((r_opens e (w64 ((r_Total e) - (r_gains e items))) low high).1), B ((r_opens e (w64 ((r_Total e) - (r_gains e items))) low high).2)])]

theorem T_r_Decides (e : S_Estate) (items : GS Int) (low : Int) (high : Int) (hL : items.l.length ≤ 9223372036854775807) : (lim cfg).pure 18 [S_Estate.D e, GS.D I 1 items, I low, I high] = some (.tup [B ((r_Decides e items low high).1), I ((r_Decides e items low high).2)]) := by
  unfold r_Decides
  cases h1 : ((r_first e items) != 0) with
  | true =>
    have g1 := bne_true h1
    exact za [.pure (I (r_first e items)), .dec true] (And.intro h1 (And.intro (T_r_first e items (by first | assumption | omega)) trivial)) (by kernel_rfl)
  | false =>
    obtain ⟨g1, gb1⟩ := rfirst_ok (by assumption) (bne_false h1)
    cases h2 : (r_bounds low high) with
    | true =>
      have p1 := (T_r_gains e items (by first | assumption | omega) (by first | assumption | omega))
      have p2 := (T_r_opens e (w64 ((r_Total e) - (r_gains e items))) low high (by first | assumption | omega))
      cases h3 : ((r_opens e (w64 ((r_Total e) - (r_gains e items))) low high).2) with
      | true =>
        exact za ((r_Decides_o1 e items low high) ++ [.dec true]) (And.intro h3 (And.intro p2 (And.intro p1 (And.intro (T_r_Total e (by first | assumption | omega)) (And.intro h2 (And.intro (T_r_bounds low high) (And.intro h1 (And.intro (T_r_first e items (by first | assumption | omega)) trivial)))))))) (by kernel_rfl)
      | false =>
        exact za ((r_Decides_o1 e items low high) ++ [.dec false]) (And.intro h3 (And.intro p2 (And.intro p1 (And.intro (T_r_Total e (by first | assumption | omega)) (And.intro h2 (And.intro (T_r_bounds low high) (And.intro h1 (And.intro (T_r_first e items (by first | assumption | omega)) trivial)))))))) (by kernel_rfl)
    | false =>
      exact za [.pure (I (r_first e items)), .dec false, .pure (B (r_bounds low high)), .dec false] (And.intro h2 (And.intro (T_r_bounds low high) (And.intro h1 (And.intro (T_r_first e items (by first | assumption | omega)) trivial)))) (by kernel_rfl)

def zA (e : S_Estate) (items : GS Int) (low : Int) (high : Int) : (GS Int) × Bool × Int :=
  bif ((r_first e items) != 0) then
    (GS.nil, false, (r_first e items))
  else
    bif (r_bounds low high) then
      bif ((r_opens e (w64 ((r_Total e) - (r_gains e items))) low high).2) then
        ((r_spread e items (w64 (((r_opens e (w64 ((r_Total e) - (r_gains e items))) low high).1) - ((r_All e).lo)))), true, 0)
      else
        (GS.nil, false, 0)
    else
      (GS.nil, false, 1)

def r_Open_o1 (e : S_Estate) (items : GS Int) (low : Int) (high : Int) : List Ora := [.pure (I (r_first e items)), .dec false, .pure (B (r_bounds low high)), .dec true, .pure (I (r_Total e)), .pure (I (r_gains e items)), .pure (.tup [I ((r_opens e (w64 ((r_Total e) - (r_gains e items))) low high).1), B ((r_opens e (w64 ((r_Total e) - (r_gains e items))) low high).2)])]

theorem T_r_Open (e : S_Estate) (items : GS Int) (low : Int) (high : Int) (hL : items.l.length ≤ 9223372036854775807) : (lim cfg).pure 22 [S_Estate.D e, GS.D I 1 items, I low, I high] = some (.tup [GS.D I 1 ((zA e items low high).1), B ((zA e items low high).2.1), I ((zA e items low high).2.2)]) := by
  unfold zA
  cases h1 : ((r_first e items) != 0) with
  | true =>
    have g1 := bne_true h1
    exact za [.pure (I (r_first e items)), .dec true] (And.intro h1 (And.intro (T_r_first e items (by first | assumption | omega)) trivial)) (by kernel_rfl)
  | false =>
    obtain ⟨g1, gb1⟩ := rfirst_ok (by assumption) (bne_false h1)
    cases h2 : (r_bounds low high) with
    | true =>
      have p1 := (T_r_gains e items (by first | assumption | omega) (by first | assumption | omega))
      have p2 := (T_r_opens e (w64 ((r_Total e) - (r_gains e items))) low high (by first | assumption | omega))
      cases h3 : ((r_opens e (w64 ((r_Total e) - (r_gains e items))) low high).2) with
      | true =>
        exact za ((r_Open_o1 e items low high) ++ [.dec true, .pure (.agg [I ((r_All e).lo), I ((r_All e).hi)]), .pure (.sl ((r_spread e items (w64 (((r_opens e (w64 ((r_Total e) - (r_gains e items))) low high).1) - ((r_All e).lo)))).nl) (((r_spread e items (w64 (((r_opens e (w64 ((r_Total e) - (r_gains e items))) low high).1) - ((r_All e).lo)))).l).map I) (zsl ((r_spread e items (w64 (((r_opens e (w64 ((r_Total e) - (r_gains e items))) low high).1) - ((r_All e).lo)))).nl) 1) none)]) (And.intro (T_r_spread e items (w64 (((r_opens e (w64 ((r_Total e) - (r_gains e items))) low high).1) - ((r_All e).lo))) (by first | assumption | omega) (by first | assumption | omega)) (And.intro (T_r_All e (by first | assumption | omega)) (And.intro h3 (And.intro p2 (And.intro p1 (And.intro (T_r_Total e (by first | assumption | omega)) (And.intro h2 (And.intro (T_r_bounds low high) (And.intro h1 (And.intro (T_r_first e items (by first | assumption | omega)) trivial)))))))))) (by kernel_rfl)
      | false =>
        exact za ((r_Open_o1 e items low high) ++ [.dec false]) (And.intro h3 (And.intro p2 (And.intro p1 (And.intro (T_r_Total e (by first | assumption | omega)) (And.intro h2 (And.intro (T_r_bounds low high) (And.intro h1 (And.intro (T_r_first e items (by first | assumption | omega)) trivial)))))))) (by kernel_rfl)
    | false =>
      exact za [.pure (I (r_first e items)), .dec false, .pure (B (r_bounds low high)), .dec false] (And.intro h2 (And.intro (T_r_bounds low high) (And.intro h1 (And.intro (T_r_first e items (by first | assumption | omega)) trivial)))) (by kernel_rfl)
end Go.VS

namespace Go.VS
open Go Go.Proofs
set_option maxHeartbeats 0
set_option linter.unusedSimpArgs false
set_option linter.unusedVariables false
theorem chosen3a_ok (bits : Int) (n : Nat) : ∀ (l : List S_Item) (i : Nat) (v : List Int), i + l.length = n → (∀ x ∈ v, 0 ≤ x ∧ x < (n : Int)) → v.length ≤ i → ∃ w, r_Chosen_3a bits l i v = .x0 w ∧ (∀ x ∈ w, 0 ≤ x ∧ x < (n : Int)) ∧ w.length ≤ n
  | [], i, v, h, hv, hl => ⟨v, rfl, hv, by simp at h; omega⟩
  | y :: l, i, v, h, hv, hl => by
    simp only [List.length_cons] at h
    unfold r_Chosen_3a
    rw [Bool.cond_eq_ite]
    split
    · exact chosen3a_ok bits n l (i + 1) _ (by omega) (zx hv (by omega)) (by simp; omega)
    · exact chosen3a_ok bits n l (i + 1) _ (by omega) hv (by omega)
theorem chosen3_ok (bits : Int) (n : Nat) : ∀ (l : List S_Item) (i : Nat), i + l.length = n → r_Chosen_3 bits l i = .x1 ∨ ∃ w, r_Chosen_3 bits l i = .x0 w ∧ (∀ x ∈ w, 0 ≤ x ∧ x < (n : Int)) ∧ w.length ≤ n
  | [], i, h => .inl rfl
  | y :: l, i, h => by
    simp only [List.length_cons] at h
    unfold r_Chosen_3
    rw [Bool.cond_eq_ite]
    split
    · exact .inr (chosen3a_ok bits n l (i + 1) _ (by omega) (zy (by omega)) (by simp))
    · exact chosen3_ok bits n l (i + 1) (by omega)
theorem rchosen_ok {e : S_Estate} {bits : Int} : (∀ i ∈ (y9 e bits).l, 0 ≤ i ∧ i < ((e.items.l.length : Nat) : Int)) ∧ (y9 e bits).l.length ≤ e.items.l.length := by
  unfold y9
  rcases chosen3_ok bits e.items.l.length e.items.l 0 (by omega) with h | ⟨w, h, h1, h2⟩
  · rw [h]; exact ⟨zz, by simp [GS.nil]⟩
  · rw [h]; exact ⟨h1, h2⟩

noncomputable def lp20_8 : Code := subC [1, 1, 1, 1, 1, 0, 1, 0, 0] (bodyC Tryz.f20)

inductive LR_r_Cheapest_8 where
  | x0 (i8 : Nat) (v8_0 : GS Int) (v8_1 : Bool)
instance : Inhabited LR_r_Cheapest_8 := ⟨.x0 default default default⟩
def r_Cheapest_8 (e : S_Estate) (low : Int) (high : Int) : Nat → Nat → (GS Int) → Bool → LR_r_Cheapest_8
  | 0, i8, v8_0, v8_1 => .x0 i8 v8_0 v8_1
  | rest8 + 1, i8, v8_0, v8_1 =>
    bif ((r_opens e (w64 ((r_Total e) - (r_gains e (y9 e ((i8 : Nat) : Int))))) low high).2) then
      r_Cheapest_8 e low high rest8 (i8 + 1) v8_0 v8_1
    else
      bif v8_1 then
        bif (r_Less e (y9 e ((i8 : Nat) : Int)) v8_0) then
          r_Cheapest_8 e low high rest8 (i8 + 1) (y9 e ((i8 : Nat) : Int)) true
        else
          r_Cheapest_8 e low high rest8 (i8 + 1) v8_0 v8_1
      else
        r_Cheapest_8 e low high rest8 (i8 + 1) (y9 e ((i8 : Nat) : Int)) true
def lr_r_Cheapest_8 (e : S_Estate) (low : Int) (high : Int) : LR_r_Cheapest_8 → Exit × St
  | .x0 i8 v8_0 v8_1 => ((.exit 0), ⟨61, [(27, B false), (26, I (w64 (1 * 2 ^ (min (((e.items.l.length : Nat) : Int)).toNat 64)))), (25, I ((e.items.l.length : Nat) : Int)), (24, .sl e.items.nl (e.items.l.map S_Item.D) (zsl e.items.nl 4) none), (23, .lref 0 0 3 0), (22, I ((i8 : Nat) : Int)), (1, I low), (2, I high), (3, .lref 0 0 3 0), (9, .sl v8_0.nl (v8_0.l.map I) (zsl v8_0.nl 1) none), (10, B v8_1), (11, I ((i8 : Nat) : Int))], [(0, ⟨[.agg [.sl e.items.nl (e.items.l.map S_Item.D) (zsl e.items.nl 4) none, I e.whole.lo, I e.whole.hi]], 3, false⟩)], 1, 0⟩)
def iv_r_Cheapest_8 (e : S_Estate) (low : Int) (high : Int) : LR_r_Cheapest_8 → Prop
  | .x0 i8 v8_0 v8_1 => (∀ i ∈ v8_0.l, 0 ≤ i ∧ i < ((e.items.l.length : Nat) : Int)) ∧ (v8_0.l.length ≤ 12)
def r_Cheapest_8_c_o1 (e : S_Estate) (low : Int) (high : Int) (i8 : Nat) : List Ora := [.rw 25 (I ((e.items.l.length : Nat) : Int)), .op (some 26) ⟨I (w64 (1 * 2 ^ (min (((e.items.l.length : Nat) : Int)).toNat 64))), [], [], 1⟩, .dec true, .pure (.sl ((y9 e ((i8 : Nat) : Int)).nl) (((y9 e ((i8 : Nat) : Int)).l).map I) (zsl ((y9 e ((i8 : Nat) : Int)).nl) 1) none), .pure (I (r_Total e)), .pure (I (r_gains e (y9 e ((i8 : Nat) : Int)))), .pure (.tup [I ((r_opens e (w64 ((r_Total e) - (r_gains e (y9 e ((i8 : Nat) : Int))))) low high).1), B ((r_opens e (w64 ((r_Total e) - (r_gains e (y9 e ((i8 : Nat) : Int))))) low high).2)])]
theorem lp_r_Cheapest_8 (e : S_Estate) (low : Int) (high : Int) : ∀ (rest8 : Nat) (i8 : Nat) (v8_0 : GS Int) (v8_1 : Bool) (hk8 : ((w64 (1 * 2 ^ (min (((e.items.l.length : Nat) : Int)).toNat 64))) - ((i8 : Nat) : Int)).toNat = rest8) (hN8 : (w64 (1 * 2 ^ (min (((e.items.l.length : Nat) : Int)).toNat 64))) ≤ 9223372036854775807) (hm8_v8_0 : ∀ i ∈ v8_0.l, 0 ≤ i ∧ i < ((e.items.l.length : Nat) : Int)) (hz8_v8_0 : v8_0.l.length ≤ 12) (hle : 1 ≤ e.items.l.length ∧ e.items.l.length ≤ 12), (lim cfg).loop 20 lp20_8 ⟨61, [(1, I low), (2, I high), (3, .lref 0 0 3 0), (9, .sl v8_0.nl (v8_0.l.map I) (zsl v8_0.nl 1) none), (10, B v8_1), (11, I ((i8 : Nat) : Int))], [(0, ⟨[.agg [.sl e.items.nl (e.items.l.map S_Item.D) (zsl e.items.nl 4) none, I e.whole.lo, I e.whole.hi]], 3, false⟩)], 1, 0⟩ = some (lr_r_Cheapest_8 e low high (r_Cheapest_8 e low high rest8 i8 v8_0 v8_1)) := by
  intro rest8
  induction rest8 with
  | zero =>
    intro i8 v8_0 v8_1 hk8 hN8 hm8_v8_0 hz8_v8_0 hle
    unfold r_Cheapest_8
    exact zO [.rw 25 (I ((e.items.l.length : Nat) : Int)), .op (some 26) ⟨I (w64 (1 * 2 ^ (min (((e.items.l.length : Nat) : Int)).toNat 64))), [], [], 1⟩, .dec false] (And.intro (ct_no hk8) (And.intro (shl_op (C := cfg) (t := 3) (cst := true) (nxt := 1) (a := 1) (b := ((e.items.l.length : Nat) : Int)) (by first | assumption | omega)) (And.intro (zh S_Item.D e.items) trivial))) (by kernel_rfl)
  | succ rest8 ih =>
    intro i8 v8_0 v8_1 hk8 hN8 hm8_v8_0 hz8_v8_0 hle
    have hlt8 := of_decide_eq_true (ct_at hk8)
    obtain ⟨hch1, hch2⟩ := rchosen_ok (e := e) (bits := ((i8 : Nat) : Int))
    unfold r_Cheapest_8
    have p1 := (shl_op (C := cfg) (t := 3) (cst := true) (nxt := 1) (a := 1) (b := ((e.items.l.length : Nat) : Int)) (by first | assumption | omega))
    have p2 := (T_r_Chosen e ((i8 : Nat) : Int) (by first | assumption | omega) (by first | assumption | omega))
    have p3 := (T_r_gains e (y9 e ((i8 : Nat) : Int)) (by first | assumption | omega) (by first | assumption | omega))
    have p4 := (T_r_opens e (w64 ((r_Total e) - (r_gains e (y9 e ((i8 : Nat) : Int))))) low high (by first | assumption | omega))
    cases h6 : ((r_opens e (w64 ((r_Total e) - (r_gains e (y9 e ((i8 : Nat) : Int))))) low high).2) with
    | true =>
      exact po_turn ((r_Cheapest_8_c_o1 e low high i8) ++ [.dec true, .rw 29 (I ((i8 + 1 : Nat) : Int))]) (And.intro (yb (i := i8) (by first | assumption | omega)) (And.intro h6 (And.intro p4 (And.intro p3 (And.intro (T_r_Total e (by first | assumption | omega)) (And.intro p2 (And.intro (ct_at hk8) (And.intro p1 (And.intro (zh S_Item.D e.items) trivial))))))))) (ih (i8 + 1) v8_0 v8_1 (by omega) hN8 (by first | assumption | omega) (by first | assumption | omega) (by first | assumption | omega)) (by kernel_rfl)
    | false =>
      rcases Bool.eq_false_or_eq_true v8_1 with h7 | h7
      · rw [cond_t h7]
        have p5 := (T_r_Less e (y9 e ((i8 : Nat) : Int)) v8_0 (by first | assumption | omega) (by first | assumption | omega) (by first | assumption | omega) (by first | assumption | omega))
        cases h8 : (r_Less e (y9 e ((i8 : Nat) : Int)) v8_0) with
        | true =>
          exact po_turn ((r_Cheapest_8_c_o1 e low high i8) ++ [.dec false, .op (some 50) ⟨B false, [], [], 1⟩, .pure (B (r_Less e (y9 e ((i8 : Nat) : Int)) v8_0)), .dec true, .rw 29 (I ((i8 + 1 : Nat) : Int))]) (And.intro (yb (i := i8) (by first | assumption | omega)) (And.intro h8 (And.intro p5 (And.intro (not_op (nxt := 1) h7) (And.intro h6 (And.intro p4 (And.intro p3 (And.intro (T_r_Total e (by first | assumption | omega)) (And.intro p2 (And.intro (ct_at hk8) (And.intro p1 (And.intro (zh S_Item.D e.items) trivial)))))))))))) (ih (i8 + 1) (y9 e ((i8 : Nat) : Int)) true (by omega) hN8 (by first | assumption | omega) (by first | assumption | omega) (by first | assumption | omega)) (by kernel_rfl)
        | false =>
          exact po_turn ((r_Cheapest_8_c_o1 e low high i8) ++ [.dec false, .op (some 50) ⟨B false, [], [], 1⟩, .pure (B (r_Less e (y9 e ((i8 : Nat) : Int)) v8_0)), .dec false, .rw 29 (I ((i8 + 1 : Nat) : Int))]) (And.intro (yb (i := i8) (by first | assumption | omega)) (And.intro h8 (And.intro p5 (And.intro (not_op (nxt := 1) h7) (And.intro h6 (And.intro p4 (And.intro p3 (And.intro (T_r_Total e (by first | assumption | omega)) (And.intro p2 (And.intro (ct_at hk8) (And.intro p1 (And.intro (zh S_Item.D e.items) trivial)))))))))))) (ih (i8 + 1) v8_0 v8_1 (by omega) hN8 (by first | assumption | omega) (by first | assumption | omega) (by first | assumption | omega)) (by kernel_rfl)
      · rw [cond_f h7]
        exact po_turn ((r_Cheapest_8_c_o1 e low high i8) ++ [.dec false, .op (some 50) ⟨B true, [], [], 1⟩, .rw 29 (I ((i8 + 1 : Nat) : Int))]) (And.intro (yb (i := i8) (by first | assumption | omega)) (And.intro (not_op (nxt := 1) h7) (And.intro h6 (And.intro p4 (And.intro p3 (And.intro (T_r_Total e (by first | assumption | omega)) (And.intro p2 (And.intro (ct_at hk8) (And.intro p1 (And.intro (zh S_Item.D e.items) trivial)))))))))) (ih (i8 + 1) (y9 e ((i8 : Nat) : Int)) true (by omega) hN8 (by first | assumption | omega) (by first | assumption | omega) (by first | assumption | omega)) (by kernel_rfl)
theorem ivt_r_Cheapest_8 (e : S_Estate) (low : Int) (high : Int) : ∀ (rest8 : Nat) (i8 : Nat) (v8_0 : GS Int) (v8_1 : Bool) (hk8 : ((w64 (1 * 2 ^ (min (((e.items.l.length : Nat) : Int)).toNat 64))) - ((i8 : Nat) : Int)).toNat = rest8) (hN8 : (w64 (1 * 2 ^ (min (((e.items.l.length : Nat) : Int)).toNat 64))) ≤ 9223372036854775807) (hm8_v8_0 : ∀ i ∈ v8_0.l, 0 ≤ i ∧ i < ((e.items.l.length : Nat) : Int)) (hz8_v8_0 : v8_0.l.length ≤ 12) (hle : 1 ≤ e.items.l.length ∧ e.items.l.length ≤ 12), iv_r_Cheapest_8 e low high (r_Cheapest_8 e low high rest8 i8 v8_0 v8_1) := by
  intro rest8
  induction rest8 with
  | zero =>
    intro i8 v8_0 v8_1 hk8 hN8 hm8_v8_0 hz8_v8_0 hle
    unfold r_Cheapest_8
    exact ⟨hm8_v8_0, hz8_v8_0⟩
  | succ rest8 ih =>
    intro i8 v8_0 v8_1 hk8 hN8 hm8_v8_0 hz8_v8_0 hle
    have hlt8 := of_decide_eq_true (ct_at hk8)
    obtain ⟨hch1, hch2⟩ := rchosen_ok (e := e) (bits := ((i8 : Nat) : Int))
    unfold r_Cheapest_8
    cases h6 : ((r_opens e (w64 ((r_Total e) - (r_gains e (y9 e ((i8 : Nat) : Int))))) low high).2) with
    | true =>
      exact ih (i8 + 1) v8_0 v8_1 (by omega) hN8 (by first | assumption | omega) (by first | assumption | omega) (by first | assumption | omega)
    | false =>
      rcases Bool.eq_false_or_eq_true v8_1 with h7 | h7
      · rw [cond_t h7]
        cases h8 : (r_Less e (y9 e ((i8 : Nat) : Int)) v8_0) with
        | true =>
          exact ih (i8 + 1) (y9 e ((i8 : Nat) : Int)) true (by omega) hN8 (by first | assumption | omega) (by first | assumption | omega) (by first | assumption | omega)
        | false =>
          exact ih (i8 + 1) v8_0 v8_1 (by omega) hN8 (by first | assumption | omega) (by first | assumption | omega) (by first | assumption | omega)
      · rw [cond_f h7]
        exact ih (i8 + 1) (y9 e ((i8 : Nat) : Int)) true (by omega) hN8 (by first | assumption | omega) (by first | assumption | omega) (by first | assumption | omega)

def zi (e : S_Estate) (low : Int) (high : Int) : (GS Int) × Bool × Int :=
  bif (r_Valid e) then
    bif (r_bounds low high) then
      match r_Cheapest_8 e low high ((w64 (1 * 2 ^ (min (((e.items.l.length : Nat) : Int)).toNat 64))) - 0).toNat 0 GS.nil false with
      | .x0 i8 v8_0 v8_1 =>
        (v8_0, v8_1, 0)
    else
      (GS.nil, false, 1)
  else
    (GS.nil, false, 80)

def sd20121 (e : S_Estate) (low : Int) (high : Int) (i8 : Nat) (v8_0 : GS Int) (v8_1 : Bool) : St := ⟨61, [(27, B false), (26, I (w64 (1 * 2 ^ (min (((e.items.l.length : Nat) : Int)).toNat 64)))), (25, I ((e.items.l.length : Nat) : Int)), (24, .sl e.items.nl (e.items.l.map S_Item.D) (zsl e.items.nl 4) none), (23, .lref 0 0 3 0), (22, I ((i8 : Nat) : Int)), (1, I low), (2, I high), (3, .lref 0 0 3 0), (9, .sl v8_0.nl (v8_0.l.map I) (zsl v8_0.nl 1) none), (10, B v8_1), (11, I ((i8 : Nat) : Int))], [(0, ⟨[.agg [.sl e.items.nl (e.items.l.map S_Item.D) (zsl e.items.nl 4) none, I e.whole.lo, I e.whole.hi]], 3, false⟩)], 1, 0⟩

def r_Cheapest_o1 (e : S_Estate) (low : Int) (high : Int) (i8 : Nat) (v8_0 : GS Int) (v8_1 : Bool) : List Ora := [.pure (B (r_Valid e)), .dec true, .pure (B (r_bounds low high)), .dec true, .loop (.exit 0) (sd20121 e low high i8 v8_0 v8_1)]

theorem T_r_Cheapest (e : S_Estate) (low : Int) (high : Int) : (lim cfg).pure 20 [S_Estate.D e, I low, I high] = some (.tup [GS.D I 1 ((zi e low high).1), B ((zi e low high).2.1), I ((zi e low high).2.2)]) := by
  unfold zi
  cases h1 : (r_Valid e) with
  | true =>
    have g1 := valid_len h1
    cases h2 : (r_bounds low high) with
    | true =>
      cases h9 : r_Cheapest_8 e low high ((w64 (1 * 2 ^ (min (((e.items.l.length : Nat) : Int)).toNat 64))) - 0).toNat 0 GS.nil false with
      | x0 i8 v8_0 v8_1 =>
        try dsimp only
        have hv_h9 := ivt_r_Cheapest_8 e low high ((w64 (1 * 2 ^ (min (((e.items.l.length : Nat) : Int)).toNat 64))) - 0).toNat 0 GS.nil false (by omega) (by first | assumption | omega | (simp only [z8] at * <;> omega)) (by first | assumption | omega | (with_reducible exact zc) | (with_reducible exact Nat.le_trans zq (by omega)) | (with_reducible exact Nat.le_trans zo (by omega)) | (with_reducible exact Nat.le_trans zp (by omega)) | (with_reducible exact zz) | (with_reducible exact zy (by omega)) | (with_reducible exact zx (by assumption) (by omega)) | (simp only [z8] at * <;> omega) | (simp only [z7, z6, z5, GS.nil_len, GS.some_l, List.length_set, List.length_append, List.length_cons, List.length_nil] at * <;> first | with_reducible assumption | omega) | (simp only [z7, z6, z5, GS.nil_len, GS.some_l, List.length_set, List.length_append, List.length_cons, List.length_nil, z8] at * <;> first | with_reducible assumption | omega) | (simp at * <;> omega)) (by first | assumption | omega | (with_reducible exact zc) | (with_reducible exact Nat.le_trans zq (by omega)) | (with_reducible exact Nat.le_trans zo (by omega)) | (with_reducible exact Nat.le_trans zp (by omega)) | (with_reducible exact zz) | (with_reducible exact zy (by omega)) | (with_reducible exact zx (by assumption) (by omega)) | (simp only [z8] at * <;> omega) | (simp only [z7, z6, z5, GS.nil_len, GS.some_l, List.length_set, List.length_append, List.length_cons, List.length_nil] at * <;> first | with_reducible assumption | omega) | (simp only [z7, z6, z5, GS.nil_len, GS.some_l, List.length_set, List.length_append, List.length_cons, List.length_nil, z8] at * <;> first | with_reducible assumption | omega) | (simp at * <;> omega)) (by first | assumption | omega)
        rw [h9] at hv_h9
        obtain ⟨hv_h9_0, hv_h9_1⟩ := hv_h9
        try dsimp only [iv_r_Cheapest_8] at hv_h9_0
        try dsimp only [iv_r_Cheapest_8] at hv_h9_1
        exact za ((r_Cheapest_o1 e low high i8 v8_0 v8_1) ++ []) (And.intro (po_lr (q := lr_r_Cheapest_8 e low high) (lp_r_Cheapest_8 e low high ((w64 (1 * 2 ^ (min (((e.items.l.length : Nat) : Int)).toNat 64))) - 0).toNat 0 GS.nil false (by omega) (by first | assumption | omega | (simp only [z8] at * <;> omega)) (by first | assumption | omega | (with_reducible exact zc) | (with_reducible exact Nat.le_trans zq (by omega)) | (with_reducible exact Nat.le_trans zo (by omega)) | (with_reducible exact Nat.le_trans zp (by omega)) | (with_reducible exact zz) | (with_reducible exact zy (by omega)) | (with_reducible exact zx (by assumption) (by omega)) | (simp only [z8] at * <;> omega) | (simp only [z7, z6, z5, GS.nil_len, GS.some_l, List.length_set, List.length_append, List.length_cons, List.length_nil] at * <;> first | with_reducible assumption | omega) | (simp only [z7, z6, z5, GS.nil_len, GS.some_l, List.length_set, List.length_append, List.length_cons, List.length_nil, z8] at * <;> first | with_reducible assumption | omega) | (simp at * <;> omega)) (by first | assumption | omega | (with_reducible exact zc) | (with_reducible exact Nat.le_trans zq (by omega)) | (with_reducible exact Nat.le_trans zo (by omega)) | (with_reducible exact Nat.le_trans zp (by omega)) | (with_reducible exact zz) | (with_reducible exact zy (by omega)) | (with_reducible exact zx (by assumption) (by omega)) | (simp only [z8] at * <;> omega) | (simp only [z7, z6, z5, GS.nil_len, GS.some_l, List.length_set, List.length_append, List.length_cons, List.length_nil] at * <;> first | with_reducible assumption | omega) | (simp only [z7, z6, z5, GS.nil_len, GS.some_l, List.length_set, List.length_append, List.length_cons, List.length_nil, z8] at * <;> first | with_reducible assumption | omega) | (simp at * <;> omega)) (by first | assumption | omega)) h9) (And.intro h2 (And.intro (T_r_bounds low high) (And.intro h1 (And.intro (T_r_Valid e) trivial))))) (by kernel_rfl)
    | false =>
      exact za [.pure (B (r_Valid e)), .dec true, .pure (B (r_bounds low high)), .dec false] (And.intro h2 (And.intro (T_r_bounds low high) (And.intro h1 (And.intro (T_r_Valid e) trivial)))) (by kernel_rfl)
  | false =>
    exact za [.pure (B (r_Valid e)), .dec false] (And.intro h1 (And.intro (T_r_Valid e) trivial)) (by kernel_rfl)
end Go.VS

/-
  Orders: Decides, Open, Cheapest of the reference, plainly. (A text of this claim's own; nothing of it is trusted.)
-/
namespace Go.VS
open Go Go.Proofs
set_option maxHeartbeats 0
theorem rbounds_iff {low high : Int} : r_bounds low high = true ↔ low < high ∧ -1099511627776 ≤ low ∧ high ≤ 1099511627776 := by
  unfold r_bounds
  simp only [Bool.cond_decide]
  split
  · split
    · split
      · simp; omega
      · simp; omega
    · simp; omega
  · simp; omega
theorem ropens_eq {e : S_Estate} (h : V e) {g low high : Int} (g0 : 0 ≤ g) (g1 : g ≤ sHi e.items.l - sLo e.items.l) (hb : low < high ∧ -1099511627776 ≤ low ∧ high ≤ 1099511627776) :
    (r_opens e (sHi e.items.l - sLo e.items.l - g) low high).1 = sLo e.items.l + opS e g low ∧ ((r_opens e (sHi e.items.l - sLo e.items.l - g) low high).2 = true ↔ Opn e g low high) := by
  have hs := sums_bd h.sp
  have hn := h.n2
  have w0 := h.w0; have w1 := h.w1; have w2 := h.w2; have := h.lo; have := h.hi
  unfold r_opens
  rw [rall_eq, all_eq h.sp h.n2]
  simp only [imax_eq, imin_eq]
  rw [w64_eq (n := low + 1) (by omega) (by omega), w64_eq (n := low + 1 - (sHi e.items.l - sLo e.items.l - g)) (by omega) (by omega), w64_eq (n := e.whole.lo - (sHi e.items.l - sLo e.items.l - g)) (by omega) (by omega), w64_eq (n := sHi e.items.l - (sHi e.items.l - sLo e.items.l - g)) (by omega) (by omega), w64_eq (n := high - 1) (by omega) (by omega)]
  have e1 : max (sLo e.items.l) (max (low + 1 - (sHi e.items.l - sLo e.items.l - g)) (e.whole.lo - (sHi e.items.l - sLo e.items.l - g))) = sLo e.items.l + opS e g low := by unfold opS; omega
  rw [e1]
  have e2 : opS e g low = max (max 0 (e.whole.lo - (sHi e.items.l - g))) (low + 1 - (sHi e.items.l - g)) := rfl
  simp only [Bool.cond_decide]
  unfold Opn
  split
  · split
    · split
      · refine ⟨rfl, ⟨fun _ => ?_, fun _ => rfl⟩⟩; omega
      · refine ⟨rfl, ⟨fun hh => (by cases hh), fun hh => ?_⟩⟩; omega
    · refine ⟨rfl, ⟨fun hh => (by cases hh), fun hh => ?_⟩⟩; omega
  · refine ⟨rfl, ⟨fun hh => (by cases hh), fun hh => ?_⟩⟩; omega
theorem tg_eq {e : S_Estate} (h : V e) {items : GS Int} (hi : inc (-1) (e.items.l.length : Int) items.l) : w64 (r_Total e - r_gains e items) = sHi e.items.l - sLo e.items.l - tot (gs e items.l) := by
  have hr := gs_range h hi
  have hb := sums_bd h.sp
  have := h.n2
  rw [rtotal_eq h, rgains_eq h hi, w64_eq (by omega) (by omega)]
theorem bounds_cases {e : S_Estate} {items : GS Int} {low high : Int} : zF e items low high = if zB e items = 0 then (if r_bounds low high = true then 0 else 1) else zB e items := by
  unfold zF
  cases h : (zB e items != 0) with
  | true =>
    have := bne_true h
    rw [if_neg this]; rfl
  | false =>
    have h' := bne_false h
    rw [if_pos h']
    simp only [cond_false, Bool.cond_decide]
    unfold r_bounds
    simp only [Bool.cond_decide]
    by_cases h1 : low ≥ high
    · rw [if_pos h1, if_neg (by omega : ¬ low < high)]; rfl
    · rw [if_neg h1, if_pos (by omega : low < high)]
      by_cases h2 : low < -1099511627776
      · rw [if_pos h2, if_neg (by omega : ¬ low ≥ -1099511627776)]; rfl
      · rw [if_neg h2, if_pos (by omega : low ≥ -1099511627776)]
        by_cases h3 : high > 1099511627776
        · rw [if_pos h3, if_neg (by omega : ¬ high ≤ 1099511627776)]; rfl
        · rw [if_neg h3, if_pos (by omega : high ≤ 1099511627776)]; rfl
theorem rdecides_eq {e : S_Estate} {items : GS Int} {low high : Int} (hL : items.l.length ≤ 9223372036854775807) : r_Decides e items low high = y8 e items low high := by
  have hb := bounds_cases (e := e) (items := items) (low := low) (high := high)
  unfold r_Decides y8
  rw [rfirst_eq hL, hb]
  by_cases h0 : zB e items = 0
  · obtain ⟨hc, hi⟩ := (right_iff hL).1 h0
    have h := check_iff.1 hc
    rw [if_pos h0, h0]
    simp only [bne_self_eq_false, cond_false]
    cases hr : r_bounds low high with
    | false => rfl
    | true =>
      have hb' := rbounds_iff.1 hr
      have k := ropens_eq h (gs_range h hi).1 (gs_range h hi).2 hb'
      have k2 := open_eq h hi hb'.2.1 hb'.2.2 hb'.1
      rw [tg_eq h hi]
      simp only [if_true, bne_self_eq_false, cond_false, cond_true]
      by_cases c : Opn e (tot (gs e items.l)) low high
      · rw [k2.1 c, k.2.2 c]
      · rw [k2.2 c]
        cases hx : (r_opens e (sHi e.items.l - sLo e.items.l - tot (gs e items.l)) low high).2 with
        | true => exact absurd (k.2.1 hx) c
        | false => rfl
  · rw [if_neg h0]
    have : (zB e items != 0) = true := by simpa using h0
    rw [this]
    rfl
theorem ropen_eq {e : S_Estate} {items : GS Int} {low high : Int} (hL : items.l.length ≤ 9223372036854775807) : zA e items low high = ze e items low high := by
  have hb := bounds_cases (e := e) (items := items) (low := low) (high := high)
  unfold zA ze
  rw [rfirst_eq hL, hb]
  by_cases h0 : zB e items = 0
  · obtain ⟨hc, hi⟩ := (right_iff hL).1 h0
    have h := check_iff.1 hc
    rw [if_pos h0, h0]
    simp only [bne_self_eq_false, cond_false]
    cases hr : r_bounds low high with
    | false => rfl
    | true =>
      have hb' := rbounds_iff.1 hr
      have hg := gs_range h hi
      have hs := sums_bd h.sp
      have hn := h.n2
      have w0 := h.w0; have w1 := h.w1; have w2 := h.w2
      have k := ropens_eq h hg.1 hg.2 hb'
      have k2 := open_eq h hi hb'.2.1 hb'.2.2 hb'.1
      rw [tg_eq h hi, k.1, rall_eq, all_eq h.sp h.n2]
      simp only [if_true, bne_self_eq_false, cond_false, cond_true]
      by_cases c : Opn e (tot (gs e items.l)) low high
      · have e2 : opS e (tot (gs e items.l)) low = max (max 0 (e.whole.lo - (sHi e.items.l - tot (gs e items.l)))) (low + 1 - (sHi e.items.l - tot (gs e items.l))) := rfl
        rw [k2.1 c, k.2.2 c, w64_eq (by omega) (by omega), rspread_eq, show sLo e.items.l + opS e (tot (gs e items.l)) low - sLo e.items.l = opS e (tot (gs e items.l)) low by omega]
        simp only [cond_true]
        try rfl
      · rw [k2.2 c]
        cases hx : (r_opens e (sHi e.items.l - sLo e.items.l - tot (gs e items.l)) low high).2 with
        | true => exact absurd (k.2.1 hx) c
        | false => rfl
  · rw [if_neg h0]
    have : (zB e items != 0) = true := by simpa using h0
    rw [this]
    rfl
/-! ### lists -/
theorem rchosen3a {m : Nat} (hm : m < 4611686018427387904) : ∀ (l : List S_Item) (i : Nat) (v : List Int), i + l.length ≤ 64 → r_Chosen_3a ((m : Nat) : Int) l i v = .x0 (v ++ bitsFrom m l.length i)
  | [], i, v, _ => by simp [r_Chosen_3a, bitsFrom]
  | x :: l, i, v, h => by
    simp only [List.length_cons] at h ⊢
    unfold r_Chosen_3a bitsFrom
    rw [bt_eq hm (by omega)]
    cases m.testBit i with
    | true => simp only [cond_true]; rw [rchosen3a hm l (i + 1) _ (by omega)]; simp
    | false => simp only [cond_false]; rw [rchosen3a hm l (i + 1) _ (by omega)]
theorem rchosen3 {m : Nat} (hm : m < 4611686018427387904) : ∀ (l : List S_Item) (i : Nat), i + l.length ≤ 64 → (bitsFrom m l.length i = [] → r_Chosen_3 ((m : Nat) : Int) l i = .x1) ∧ (bitsFrom m l.length i ≠ [] → r_Chosen_3 ((m : Nat) : Int) l i = .x0 (bitsFrom m l.length i))
  | [], i, _ => ⟨fun _ => rfl, fun h => absurd rfl h⟩
  | x :: l, i, h => by
    simp only [List.length_cons] at h ⊢
    unfold r_Chosen_3 bitsFrom
    rw [bt_eq hm (by omega)]
    cases m.testBit i with
    | true => simp only [cond_true]; rw [rchosen3a hm l (i + 1) _ (by omega)]; simp
    | false => simp only [cond_false]; exact rchosen3 hm l (i + 1) (by omega)
theorem rchosen_l {e : S_Estate} (h : V e) {m : Nat} (hm : m < 4611686018427387904) : (y9 e ((m : Nat) : Int)).l = chosen e.items.l.length m := by
  have hn := h.n2
  have k := rchosen3 hm e.items.l 0 (by omega)
  unfold y9 chosen
  by_cases hc : bitsFrom m e.items.l.length 0 = []
  · rw [k.1 hc, hc]; rfl
  · rw [k.2 hc]; rfl
theorem rless6 (b : GS Int) : ∀ (l : List Int) (i : Nat), i + l.length = b.l.length → (r_Less_6 b l i = .x0 ∧ zZ b l i = .x0) ∨ (∃ j x, r_Less_6 b l i = .x1 j x ∧ zZ b l i = .x2 j x ∧ zH x (b.at ((j : Nat) : Int)) < 0) ∨ (∃ j x, r_Less_6 b l i = .x2 j x ∧ zZ b l i = .x2 j x ∧ zH x (b.at ((j : Nat) : Int)) > 0)
  | [], i, _ => .inl ⟨rfl, rfl⟩
  | x :: l, i, h => by
    simp only [List.length_cons] at h
    unfold r_Less_6 zZ
    rw [decide_eq_false (by omega : ¬ ((i : Nat) : Int) ≥ ((b.l.length : Nat) : Int))]
    simp only [cond_false]
    by_cases hx : x = b.at ((i : Nat) : Int)
    · have e1 : (x != b.at ((i : Nat) : Int)) = false := by rw [← hx]; exact bne_self_eq_false _
      have e2 : (zH x (b.at ((i : Nat) : Int)) != 0) = false := by rw [compare_eq, ← hx]; simp
      rw [e1, e2]
      exact rless6 b l (i + 1) (by omega)
    · have e1 : (x != b.at ((i : Nat) : Int)) = true := by simpa using hx
      rw [e1]
      by_cases hlt : x < b.at ((i : Nat) : Int)
      · have e2 : zH x (b.at ((i : Nat) : Int)) = -1 := by rw [compare_eq, if_pos hlt]
        rw [e2, decide_eq_true hlt]
        exact .inr (.inl ⟨i, x, rfl, rfl, by rw [e2]; omega⟩)
      · have e2 : zH x (b.at ((i : Nat) : Int)) = 1 := by rw [compare_eq, if_neg hlt, if_pos (by omega)]
        rw [e2, decide_eq_false hlt]
        exact .inr (.inr ⟨i, x, rfl, rfl, by rw [e2]; omega⟩)
theorem cost_l {e : S_Estate} {a b : GS Int} (h : a.l = b.l) : zP e a = zP e b := by
  unfold zP
  rw [h]
theorem rless_eq (e : S_Estate) (a b : GS Int) : r_Less e a b = ltI e a.l b.l := by
  unfold r_Less ltI zv or3
  rw [rcosts_eq, rcosts_eq, compare_eq (zP e _), compare_eq ((((GS.some a.l).l.length : Nat) : Int)), cost_l (a := GS.some a.l) (b := a) rfl, cost_l (a := GS.some b.l) (b := b) rfl]
  have el : (GS.some a.l).l = a.l := rfl
  have el' : (GS.some b.l).l = b.l := rfl
  rw [el, el']
  by_cases h1 : zP e a = zP e b
  · rw [h1, bne_self_eq_false]
    simp only [cond_false, Int.lt_irrefl, if_false]
    by_cases h2 : ((a.l.length : Nat) : Int) = ((b.l.length : Nat) : Int)
    · rw [h2, bne_self_eq_false]
      simp only [cond_false, Int.lt_irrefl, if_false]
      have hc : slices_Compare (GS.some a.l) (GS.some b.l) = slices_Compare a b := by
        unfold slices_Compare
        rw [el, el', cmp2_congr (b := GS.some b.l) (b' := b) rfl a.l 0]
        cases zZ b a.l 0 <;> rfl
      rw [hc]
      unfold slices_Compare
      rcases rless6 b a.l 0 (by omega) with ⟨q1, q2⟩ | ⟨j, x, q1, q2, q3⟩ | ⟨j, x, q1, q2, q3⟩
      · rw [q1, q2, h2]; simp
      · rw [q1, q2]
        dsimp only
        have : (zH x (b.at ((j : Nat) : Int)) != 0) = true := by simp; omega
        simp [this, q3]
      · rw [q1, q2]
        dsimp only
        have : (zH x (b.at ((j : Nat) : Int)) != 0) = true := by simp; omega
        simp [this]; omega
    · have e1 : (((a.l.length : Nat) : Int) != ((b.l.length : Nat) : Int)) = true := by simpa using h2
      rw [e1]
      by_cases h3 : ((a.l.length : Nat) : Int) < ((b.l.length : Nat) : Int)
      · rw [decide_eq_true h3, if_pos h3]; rfl
      · rw [decide_eq_false h3, if_neg h3, if_pos (by omega)]; rfl
  · have e1 : (zP e a != zP e b) = true := by simpa using h1
    rw [e1]
    by_cases h3 : zP e a < zP e b
    · rw [decide_eq_true h3, if_pos h3]; rfl
    · rw [decide_eq_false h3, if_neg h3, if_pos (by omega)]; rfl
/-- What a reference's loop over lists holds. -/
def optG (b : GS Int) (v : Bool) : Option (List Int) := match v with | true => some b.l | false => none
theorem rch8 {e : S_Estate} (h : V e) {low high : Int} (hb : low < high ∧ -1099511627776 ≤ low ∧ high ≤ 1099511627776) : ∀ (r i : Nat) (b : GS Int) (v : Bool), i + r ≤ 2 ^ e.items.l.length → ∃ j b' v', r_Cheapest_8 e low high r i b v = .x0 j b' v' ∧ goC (okLC e low high) (ltI e) e.items.l.length r i (optG b v) = optG b' v'
  | 0, i, b, v, _ => ⟨i, b, v, rfl, rfl⟩
  | r + 1, i, b, v, hi => by
    have hp : 2 ^ e.items.l.length ≤ 2 ^ 12 := Nat.pow_le_pow_right (by omega) h.n2
    have hc := rchosen_l h (m := i) (by omega)
    have hinc : inc (-1) (e.items.l.length : Int) (y9 e ((i : Nat) : Int)).l := by rw [hc]; exact chosen_inc _ _
    have hg := gs_range h hinc
    have ko := ropens_eq h hg.1 hg.2 hb
    have kc := okC_eq h (chosen_inc e.items.l.length i) hb.2.1 hb.2.2 hb.1
    unfold r_Cheapest_8 goC
    rw [tg_eq h hinc, rless_eq, hc]
    rw [hc] at ko
    cases ho : (r_opens e (sHi e.items.l - sLo e.items.l - tot (gs e (chosen e.items.l.length i))) low high).2 with
    | true =>
      have hP : okLC e low high (chosen e.items.l.length i) = false := by
        cases hk : okLC e low high (chosen e.items.l.length i) with
        | false => rfl
        | true => exact absurd (ko.2.1 ho) (kc.1 hk)
      have es : stp (okLC e low high) (ltI e) (optG b v) (chosen e.items.l.length i) = optG b v := by
        unfold stp optG
        cases v <;> simp only [hP, cond_false]
        cases ltI e (chosen e.items.l.length i) b.l <;> rfl
      rw [es]
      exact rch8 h hb r (i + 1) b v (by omega)
    | false =>
      have hP : okLC e low high (chosen e.items.l.length i) = true := kc.2 fun hop => by
        rw [ko.2.2 hop] at ho; cases ho
      simp only [cond_false]
      cases v with
      | false =>
        have es : stp (okLC e low high) (ltI e) (optG b false) (chosen e.items.l.length i) = optG (y9 e ((i : Nat) : Int)) true := by
          unfold stp optG
          simp only [hP, cond_true, hc]
        rw [es]
        exact rch8 h hb r (i + 1) _ true (by omega)
      | true =>
        cases hl : ltI e (chosen e.items.l.length i) b.l with
        | false =>
          have es : stp (okLC e low high) (ltI e) (optG b true) (chosen e.items.l.length i) = optG b true := by
            unfold stp optG
            simp only [hl, cond_false]
          rw [es]
          exact rch8 h hb r (i + 1) b true (by omega)
        | true =>
          have es : stp (okLC e low high) (ltI e) (optG b true) (chosen e.items.l.length i) = optG (y9 e ((i : Nat) : Int)) true := by
            unfold stp optG
            simp only [hl, hP, cond_true, hc]
          rw [es]
          exact rch8 h hb r (i + 1) _ true (by omega)
theorem rcheapest_l {e : S_Estate} {low high : Int} : (z9 e low high).1.l = (zi e low high).1.l ∧ (zi e low high).2 = (z9 e low high).2 ∨ ((zi e low high).2.1 = false ∧ zi e low high = z9 e low high) ∨ ((z9 e low high).1.l = (zi e low high).1.l ∧ (zi e low high).2 = (z9 e low high).2) := by
  cases hv : r_Valid e with
  | false =>
    right; left
    have h1 : zN e = 80 := by rw [check_valid, hv]; rfl
    unfold zi z9
    rw [bounds_cases]
    unfold zB
    rw [hv, h1]
    exact ⟨rfl, rfl⟩
  | true =>
    have h := valid_iff.1 hv
    have hr : zB e GS.nil = 0 := right_of (by simp [GS.nil]) h trivial
    cases hb : r_bounds low high with
    | false =>
      right; left
      unfold zi z9
      rw [bounds_cases, if_pos hr, hv, hb]
      exact ⟨rfl, rfl⟩
    | true =>
      have hb' := rbounds_iff.1 hb
      obtain ⟨q1, q2, q3⟩ := cheapF h hb'.2.1 hb'.2.2 hb'.1
      obtain ⟨j, b', v', k1, k2⟩ := rch8 h hb' (2 ^ e.items.l.length) 0 GS.nil false (by omega)
      have hc : chpO e low high = optG b' v' := k2
      have e1 : zi e low high = (b', v', 0) := by
        unfold zi
        rw [hv, hb, shl_one (by omega) (by have := h.n2; omega), Int.sub_zero, Int.toNat_natCast, Int.toNat_natCast, k1]
        rfl
      have e2 : (z9 e low high).2 = ((chpO e low high).isSome, 0) := Prod.ext q2 q3
      left
      rw [e1, e2, q1, hc]
      cases v' with
      | true => exact ⟨rfl, rfl⟩
      | false =>
        refine ⟨?_, rfl⟩
        have key : ∀ (r i : Nat) (b : GS Int), (∀ k, i ≤ k → k < i + r → okLC e low high (chosen e.items.l.length k) = false) → i + r ≤ 2 ^ e.items.l.length → r_Cheapest_8 e low high r i b false = .x0 (i + r) b false := by
          intro r
          induction r with
          | zero => intro i b _ _; rfl
          | succ r ih =>
            intro i b hk hi
            have hp : 2 ^ e.items.l.length ≤ 2 ^ 12 := Nat.pow_le_pow_right (by omega) h.n2
            have hc := rchosen_l h (m := i) (by omega)
            have hinc : inc (-1) (e.items.l.length : Int) (y9 e ((i : Nat) : Int)).l := by rw [hc]; exact chosen_inc _ _
            have hg := gs_range h hinc
            have ko := ropens_eq h hg.1 hg.2 hb'
            have kc := okC_eq h (chosen_inc e.items.l.length i) hb'.2.1 hb'.2.2 hb'.1
            unfold r_Cheapest_8
            rw [tg_eq h hinc, hc]
            rw [hc] at ko
            have hop : Opn e (tot (gs e (chosen e.items.l.length i))) low high := Classical.byContradiction fun hn => by
              have := kc.2 hn
              rw [hk i (Nat.le_refl _) (by omega)] at this; cases this
            rw [ko.2.2 hop]
            simp only [cond_true]
            rw [ih (i + 1) b (fun k a c => hk k (by omega) (by omega)) (by omega), show i + 1 + r = i + (r + 1) by omega]
        have hno : ∀ k, 0 ≤ k → k < 0 + 2 ^ e.items.l.length → okLC e low high (chosen e.items.l.length k) = false := fun k a c => by
          cases hk : okLC e low high (chosen e.items.l.length k) with
          | false => rfl
          | true =>
            obtain ⟨w, hw⟩ := goC_any (P := okLC e low high) (lt := ltI e) (n := e.items.l.length) (2 ^ e.items.l.length) 0 none k a c hk
            have : chpO e low high = some w := hw
            rw [hc] at this; cases this
        have := key (2 ^ e.items.l.length) 0 GS.nil hno (by omega)
        rw [this] at k1
        cases k1
        rfl
theorem ya {e : S_Estate} {low high : Int} : (z9 e low high).1.l = (zi e low high).1.l ∧ (zi e low high).2 = (z9 e low high).2 := by
  rcases rcheapest_l (e := e) (low := low) (high := high) with h | ⟨_, h⟩ | h
  · exact h
  · rw [h]; exact ⟨rfl, rfl⟩
  · exact h
end Go.VS

