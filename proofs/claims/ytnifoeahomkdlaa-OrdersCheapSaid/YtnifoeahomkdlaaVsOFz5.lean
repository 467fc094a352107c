/- Nothing of a statement is proved in this text alone: it is part 5 of the proof's own tools, an evaluator of the code over deep values, its soundness, and what it makes of this seat's functions. Conditions: none beyond the statement's own. -/
import Derived.Test.YtnifoeahomkdlaaVsOFz4
set_option linter.unusedSimpArgs false
set_option linter.unusedVariables false
namespace Go.VS
open Go Go.Proofs
set_option maxHeartbeats 0
set_option linter.unusedSimpArgs false
set_option linter.unusedVariables false
def zF (items : GS Int) (e : S_Estate) (width : Int) : Bool :=
  bif decide ((zw e items) ≤ width) then
    true
  else
    false

theorem T_orders_Best_1 (items : GS Int) (e : S_Estate) (width : Int) (hall : ∀ i ∈ items.l, 0 ≤ i ∧ i < ((e.items.l.length : Nat) : Int)) (hLi : items.l.length ≤ 1099511627776) (hLe : e.items.l.length ≤ 12) : (lim cfg).pure 60 [GS.D I 1 items, .ptr (S_Estate.D e), .ptr (I width)] = some (B (zF items e width)) := by
  unfold zF
  cases h1 : decide ((zw e items) ≤ width) with
  | true =>
    have g1 := of_decide_eq_true h1
    exact zk [.pure (I (zw e items)), .dec true] (And.intro h1 (And.intro (T_orders_worst e items (by omega) (by omega) (by omega)) trivial)) (by kernel_rfl)
  | false =>
    have g1 := of_decide_eq_false h1
    exact zk [.pure (I (zw e items)), .dec false] (And.intro h1 (And.intro (T_orders_worst e items (by omega) (by omega) (by omega)) trivial)) (by kernel_rfl)

noncomputable def rg20205 (n : Int) (e : S_Estate) (width : Int) : Rnd := ⟨89, 4, 30, [(11, .fn (.func 96) [] [.ptr (I n)]), (9, .lref 3 0 1 0), (8, .lref 2 0 1 0), (7, B false), (6, .sl true [] 0 none), (5, .lref 1 0 1 0), (4, .lref 0 0 1 0), (0, .fn (.func 96) [] [.ptr (I n)]), (1, .fn (.func 60) [] [.ptr (.agg [.sl e.items.nl (e.items.l.map S_Item.D) (zsl e.items.nl 4) none, I e.whole.lo, I e.whole.hi]), .ptr (I width)]), (2, .fn (.func 90) [] [.ptr (.agg [.sl e.items.nl (e.items.l.map S_Item.D) (zsl e.items.nl 4) none, I e.whole.lo, I e.whole.hi])])], [12], subC [1, 1, 1, 0, 1, 0, 0] (bodyC Try.f89), subC [1, 1, 1, 0, 1, 0, 1] (bodyC Try.f89)⟩

def sd20221 (n : Int) (e : S_Estate) (width : Int) (q1_0 : Int) (i5 : Nat) (q5_0 : Int) (va5_0 : List Int) (va5_1 : List Int) : St := ⟨30, [(12, I ((i5 + 1 : Nat) : Int)), (24, I ((i5 + 1 : Nat) : Int)), (4, .lsl 8 0 ((va5_0 ++ [((i5 : Nat) : Int)]).length) 1 none), (23, .lsl 8 0 ((va5_0 ++ [((i5 : Nat) : Int)]).length) 1 none), (22, .lsl 7 0 1 1 (some 1)), (21, I ((i5 : Nat) : Int)), (20, .lsl 5 0 va5_0.length 1 none), (19, B true), (18, I (w64 ((BitVec.ofInt 64 ((q5_0).fdiv (2 ^ (min (((i5 : Nat) : Int)).toNat 64))) &&& BitVec.ofInt 64 1).toNat : Int))), (17, I ((q5_0).fdiv (2 ^ (min (((i5 : Nat) : Int)).toNat 64)))), (16, I ((i5 : Nat) : Int)), (15, I q5_0), (5, I ((i5 : Nat) : Int)), (14, I ((i5 : Nat) : Int)), (13, B true), (0, .yld 4), (1, .ptr (I n)), (3, I q5_0), (4, .lsl 5 0 va5_0.length 1 none), (7, I q1_0), (8, I q5_0), (11, I n), (12, I ((i5 : Nat) : Int))], [(0, ⟨[.fn (.func 60) [] [.ptr (.agg [.sl e.items.nl (e.items.l.map S_Item.D) (zsl e.items.nl 4) none, I e.whole.lo, I e.whole.hi]), .ptr (I width)]], 1, false⟩), (1, ⟨[.fn (.func 90) [] [.ptr (.agg [.sl e.items.nl (e.items.l.map S_Item.D) (zsl e.items.nl 4) none, I e.whole.lo, I e.whole.hi])]], 1, false⟩), (2, ⟨[.lsl 6 0 va5_1.length 1 none], 1, false⟩), (3, ⟨[B true], 1, false⟩), (6, ⟨va5_1.map I, 1, false⟩), (7, ⟨[I ((i5 : Nat) : Int)], 1, false⟩), (8, ⟨(va5_0 ++ [((i5 : Nat) : Int)]).map I, 1, false⟩)], 9, 5⟩

def sd20222 (n : Int) (e : S_Estate) (width : Int) (q1_0 : Int) (i5 : Nat) (q5_0 : Int) (va5_0 : List Int) (va5_1 : List Int) : St := ⟨30, [(12, I ((i5 + 1 : Nat) : Int)), (24, I ((i5 + 1 : Nat) : Int)), (19, B false), (18, I (w64 ((BitVec.ofInt 64 ((q5_0).fdiv (2 ^ (min (((i5 : Nat) : Int)).toNat 64))) &&& BitVec.ofInt 64 1).toNat : Int))), (17, I ((q5_0).fdiv (2 ^ (min (((i5 : Nat) : Int)).toNat 64)))), (16, I ((i5 : Nat) : Int)), (15, I q5_0), (5, I ((i5 : Nat) : Int)), (14, I ((i5 : Nat) : Int)), (13, B true), (0, .yld 4), (1, .ptr (I n)), (3, I q5_0), (4, .lsl 5 0 va5_0.length 1 none), (7, I q1_0), (8, I q5_0), (11, I n), (12, I ((i5 : Nat) : Int))], [(0, ⟨[.fn (.func 60) [] [.ptr (.agg [.sl e.items.nl (e.items.l.map S_Item.D) (zsl e.items.nl 4) none, I e.whole.lo, I e.whole.hi]), .ptr (I width)]], 1, false⟩), (1, ⟨[.fn (.func 90) [] [.ptr (.agg [.sl e.items.nl (e.items.l.map S_Item.D) (zsl e.items.nl 4) none, I e.whole.lo, I e.whole.hi])]], 1, false⟩), (2, ⟨[.lsl 6 0 va5_1.length 1 none], 1, false⟩), (3, ⟨[B true], 1, false⟩), (5, ⟨va5_0.map I, 1, false⟩), (6, ⟨va5_1.map I, 1, false⟩)], 7, 5⟩

def sd20223 (n : Int) (e : S_Estate) (width : Int) (q1_0 : Int) (i5 : Nat) (q5_0 : Int) (va1_0 : List Int) : St := ⟨30, [(12, I ((i5 + 1 : Nat) : Int)), (24, I ((i5 + 1 : Nat) : Int)), (4, .lsl 7 0 1 1 none), (23, .lsl 7 0 1 1 none), (22, .lsl 6 0 1 1 (some 1)), (21, I ((i5 : Nat) : Int)), (20, .sl true [] 0 none), (19, B true), (18, I (w64 ((BitVec.ofInt 64 ((q5_0).fdiv (2 ^ (min (((i5 : Nat) : Int)).toNat 64))) &&& BitVec.ofInt 64 1).toNat : Int))), (17, I ((q5_0).fdiv (2 ^ (min (((i5 : Nat) : Int)).toNat 64)))), (16, I ((i5 : Nat) : Int)), (15, I q5_0), (5, I ((i5 : Nat) : Int)), (14, I ((i5 : Nat) : Int)), (13, B true), (0, .yld 4), (1, .ptr (I n)), (3, I q5_0), (4, .sl true [] 0 none), (7, I q1_0), (8, I q5_0), (11, I n), (12, I ((i5 : Nat) : Int))], [(0, ⟨[.fn (.func 60) [] [.ptr (.agg [.sl e.items.nl (e.items.l.map S_Item.D) (zsl e.items.nl 4) none, I e.whole.lo, I e.whole.hi]), .ptr (I width)]], 1, false⟩), (1, ⟨[.fn (.func 90) [] [.ptr (.agg [.sl e.items.nl (e.items.l.map S_Item.D) (zsl e.items.nl 4) none, I e.whole.lo, I e.whole.hi])]], 1, false⟩), (2, ⟨[.lsl 5 0 va1_0.length 1 none], 1, false⟩), (3, ⟨[B true], 1, false⟩), (5, ⟨va1_0.map I, 1, false⟩), (6, ⟨[I ((i5 : Nat) : Int)], 1, false⟩), (7, ⟨[I ((i5 : Nat) : Int)], 1, false⟩)], 8, 5⟩

def sd20224 (n : Int) (e : S_Estate) (width : Int) (q1_0 : Int) (i5 : Nat) (q5_0 : Int) (va1_0 : List Int) : St := ⟨30, [(12, I ((i5 + 1 : Nat) : Int)), (24, I ((i5 + 1 : Nat) : Int)), (19, B false), (18, I (w64 ((BitVec.ofInt 64 ((q5_0).fdiv (2 ^ (min (((i5 : Nat) : Int)).toNat 64))) &&& BitVec.ofInt 64 1).toNat : Int))), (17, I ((q5_0).fdiv (2 ^ (min (((i5 : Nat) : Int)).toNat 64)))), (16, I ((i5 : Nat) : Int)), (15, I q5_0), (5, I ((i5 : Nat) : Int)), (14, I ((i5 : Nat) : Int)), (13, B true), (0, .yld 4), (1, .ptr (I n)), (3, I q5_0), (4, .sl true [] 0 none), (7, I q1_0), (8, I q5_0), (11, I n), (12, I ((i5 : Nat) : Int))], [(0, ⟨[.fn (.func 60) [] [.ptr (.agg [.sl e.items.nl (e.items.l.map S_Item.D) (zsl e.items.nl 4) none, I e.whole.lo, I e.whole.hi]), .ptr (I width)]], 1, false⟩), (1, ⟨[.fn (.func 90) [] [.ptr (.agg [.sl e.items.nl (e.items.l.map S_Item.D) (zsl e.items.nl 4) none, I e.whole.lo, I e.whole.hi])]], 1, false⟩), (2, ⟨[.lsl 5 0 va1_0.length 1 none], 1, false⟩), (3, ⟨[B true], 1, false⟩), (5, ⟨va1_0.map I, 1, false⟩)], 6, 5⟩

inductive LR_lsb_5 where
  | x0 (i5 : Nat) (va5_0 : List Int) (va5_1 : List Int)
  | x1 (i5 : Nat)
instance : Inhabited LR_lsb_5 := ⟨.x0 default default default⟩
def lsb_5a (va1_0 : List Int) (q5_0 : Int) : Nat → Nat → (List Int) → (List Int) → LR_lsb_5
  | 0, i5, va5_0, va5_1 => .x0 i5 va5_0 va5_1
  | rest5 + 1, i5, va5_0, va5_1 =>
    bif ((w64 ((BitVec.ofInt 64 ((q5_0).fdiv (2 ^ (min (((i5 : Nat) : Int)).toNat 64))) &&& BitVec.ofInt 64 1).toNat : Int)) == 1) then
      lsb_5a va1_0 q5_0 rest5 (i5 + 1) (va5_0 ++ [((i5 : Nat) : Int)]) va5_1
    else
      lsb_5a va1_0 q5_0 rest5 (i5 + 1) va5_0 va5_1
def lsb_5 (va1_0 : List Int) (q5_0 : Int) : Nat → Nat → LR_lsb_5
  | 0, i5 => .x1 i5
  | rest5 + 1, i5 =>
    bif ((w64 ((BitVec.ofInt 64 ((q5_0).fdiv (2 ^ (min (((i5 : Nat) : Int)).toNat 64))) &&& BitVec.ofInt 64 1).toNat : Int)) == 1) then
      lsb_5a va1_0 q5_0 rest5 (i5 + 1) [((i5 : Nat) : Int)] va1_0
    else
      lsb_5 va1_0 q5_0 rest5 (i5 + 1)
def lr_lsb_5 (n : Int) (e : S_Estate) (width : Int) (q1_0 : Int) (va1_0 : List Int) (q5_0 : Int) : LR_lsb_5 → Exit × St × Option Code
  | .x0 i5 va5_0 va5_1 => ((.exit 2), ⟨30, [(13, B false), (0, .yld 4), (1, .ptr (I n)), (3, I q5_0), (4, .lsl 5 0 va5_0.length 1 none), (7, I q1_0), (8, I q5_0), (11, I n), (12, I ((i5 : Nat) : Int))], [(0, ⟨[.fn (.func 60) [] [.ptr (.agg [.sl e.items.nl (e.items.l.map S_Item.D) (zsl e.items.nl 4) none, I e.whole.lo, I e.whole.hi]), .ptr (I width)]], 1, false⟩), (1, ⟨[.fn (.func 90) [] [.ptr (.agg [.sl e.items.nl (e.items.l.map S_Item.D) (zsl e.items.nl 4) none, I e.whole.lo, I e.whole.hi])]], 1, false⟩), (2, ⟨[.lsl 6 0 va5_1.length 1 none], 1, false⟩), (3, ⟨[B true], 1, false⟩), (5, ⟨va5_0.map I, 1, false⟩), (6, ⟨va5_1.map I, 1, false⟩)], 7, 5⟩, none)
  | .x1 i5 => ((.exit 2), ⟨30, [(13, B false), (0, .yld 4), (1, .ptr (I n)), (3, I q5_0), (4, .sl true [] 0 none), (7, I q1_0), (8, I q5_0), (11, I n), (12, I ((i5 : Nat) : Int))], [(0, ⟨[.fn (.func 60) [] [.ptr (.agg [.sl e.items.nl (e.items.l.map S_Item.D) (zsl e.items.nl 4) none, I e.whole.lo, I e.whole.hi]), .ptr (I width)]], 1, false⟩), (1, ⟨[.fn (.func 90) [] [.ptr (.agg [.sl e.items.nl (e.items.l.map S_Item.D) (zsl e.items.nl 4) none, I e.whole.lo, I e.whole.hi])]], 1, false⟩), (2, ⟨[.lsl 5 0 va1_0.length 1 none], 1, false⟩), (3, ⟨[B true], 1, false⟩), (5, ⟨va1_0.map I, 1, false⟩)], 6, 5⟩, none)
def iv_lsb_5 (n : Int) (e : S_Estate) (width : Int) (q1_0 : Int) (va1_0 : List Int) (q5_0 : Int) : LR_lsb_5 → Prop
  | .x0 i5 va5_0 va5_1 => (∀ i ∈ va5_0, 0 ≤ i ∧ i < ((e.items.l.length : Nat) : Int)) ∧ (va5_0.length ≤ 12) ∧ (∀ i ∈ va5_1, 0 ≤ i ∧ i < ((e.items.l.length : Nat) : Int)) ∧ (va5_1.length ≤ 12) ∧ (va5_0.length ≤ i5)
  | .x1 i5 => True
theorem lp_lsb_5a (n : Int) (e : S_Estate) (width : Int) (q1_0 : Int) (va1_0 : List Int) (q5_0 : Int) : ∀ (rest5 : Nat) (i5 : Nat) (va5_0 : List Int) (va5_1 : List Int) (hk5 : (n - ((i5 : Nat) : Int)).toNat = rest5) (hN5 : n ≤ 9223372036854775807) (hm5_va5_0 : ∀ i ∈ va5_0, 0 ≤ i ∧ i < ((e.items.l.length : Nat) : Int)) (hz5_va5_0 : va5_0.length ≤ 12) (hm5_va5_1 : ∀ i ∈ va5_1, 0 ≤ i ∧ i < ((e.items.l.length : Nat) : Int)) (hz5_va5_1 : va5_1.length ≤ 12) (hm5_b : ∀ i ∈ va1_0, 0 ≤ i ∧ i < ((e.items.l.length : Nat) : Int)) (hz5_b : va1_0.length ≤ 12) (hn : n = ((e.items.l.length : Nat) : Int)) (hle : e.items.l.length ≤ 12) (hg5_va5_0 : va5_0.length ≤ i5) (hL5 : n ≤ 1099511627776), (lim cfg).loopY (rg20205 n e width) 96 lp96_5 ⟨30, [(0, .yld 4), (1, .ptr (I n)), (3, I q5_0), (4, .lsl 5 0 va5_0.length 1 none), (7, I q1_0), (8, I q5_0), (11, I n), (12, I ((i5 : Nat) : Int))], [(0, ⟨[.fn (.func 60) [] [.ptr (.agg [.sl e.items.nl (e.items.l.map S_Item.D) (zsl e.items.nl 4) none, I e.whole.lo, I e.whole.hi]), .ptr (I width)]], 1, false⟩), (1, ⟨[.fn (.func 90) [] [.ptr (.agg [.sl e.items.nl (e.items.l.map S_Item.D) (zsl e.items.nl 4) none, I e.whole.lo, I e.whole.hi])]], 1, false⟩), (2, ⟨[.lsl 6 0 va5_1.length 1 none], 1, false⟩), (3, ⟨[B true], 1, false⟩), (5, ⟨va5_0.map I, 1, false⟩), (6, ⟨va5_1.map I, 1, false⟩)], 7, 5⟩ = some (lr_lsb_5 n e width q1_0 va1_0 q5_0 (lsb_5a va1_0 q5_0 rest5 i5 va5_0 va5_1)) := by
  intro rest5
  induction rest5 with
  | zero =>
    intro i5 va5_0 va5_1 hk5 hN5 hm5_va5_0 hz5_va5_0 hm5_va5_1 hz5_va5_1 hm5_b hz5_b hn hle hg5_va5_0 hL5
    unfold lsb_5a
    exact po_lastY [.dec false] (And.intro (ct_no hk5) trivial) (by kernel_rfl)
  | succ rest5 ih =>
    intro i5 va5_0 va5_1 hk5 hN5 hm5_va5_0 hz5_va5_0 hm5_va5_1 hz5_va5_1 hm5_b hz5_b hn hle hg5_va5_0 hL5
    have hlt5 := of_decide_eq_true (ct_at hk5)
    unfold lsb_5a
    cases h23 : ((w64 ((BitVec.ofInt 64 ((q5_0).fdiv (2 ^ (min (((i5 : Nat) : Int)).toNat 64))) &&& BitVec.ofInt 64 1).toNat : Int)) == 1) with
    | true =>
      exact po_turnY' (ks := [0, 1, 3, 4, 7, 8, 11, 12]) (st' := (sd20221 n e width q1_0 i5 q5_0 va5_0 va5_1)) [.dec true, .op (some 17) ⟨I ((q5_0).fdiv (2 ^ (min (((i5 : Nat) : Int)).toNat 64))), [], [], 7⟩, .dec true, .op (some 23) ⟨.lsl 8 0 ((va5_0 ++ [((i5 : Nat) : Int)]).length) 1 none, [(5, none), (8, some ⟨(va5_0 ++ [((i5 : Nat) : Int)]).map I, 1, false⟩)], [5, 7], 9⟩, .rw 24 (I ((i5 + 1 : Nat) : Int))] (And.intro (zX (i := i5) (by omega)) (And.intro (app_row (f := I) (te := ty3) (gO := zD [(0, ⟨[.fn (.func 60) [] [.ptr (.agg [.sl e.items.nl (e.items.l.map S_Item.D) (zsl e.items.nl 4) none, I e.whole.lo, I e.whole.hi]), .ptr (I width)]], 1, false⟩), (1, ⟨[.fn (.func 90) [] [.ptr (.agg [.sl e.items.nl (e.items.l.map S_Item.D) (zsl e.items.nl 4) none, I e.whole.lo, I e.whole.hi])]], 1, false⟩), (2, ⟨[.lsl 6 0 va5_1.length 1 none], 1, false⟩), (3, ⟨[B true], 1, false⟩), (5, ⟨va5_0.map I, 1, false⟩), (6, ⟨va5_1.map I, 1, false⟩), (7, ⟨[I ((i5 : Nat) : Int)], 1, false⟩)]) (nxt := 8) (o := 5) (o2 := 7) (fz := false) zl va5_0 ((i5 : Nat) : Int) (by kernel_rfl) (by kernel_rfl) rfl (by kernel_rfl) (by decide) ⟨by simp only [ty3, big] <;> (first | assumption | omega | (with_reducible exact y5) | (with_reducible exact Nat.le_trans open_len (by omega)) | (exact rows_two hi0 rfl (zq (by simp)) (by simp)) | (exact rows_app (by assumption) (zq (by omega)) (by omega)) | (exact rowsR_two hi0 rfl (zZ (by decide)) (by decide)) | (exact rowsR_app (by assumption) (zZ (by omega)) (by omega)) | (with_reducible exact allb_nil) | (with_reducible exact allb_one (by omega)) | (with_reducible exact allb_app (by assumption) (by omega)) | (exact Int.le_trans (n_le (by omega)) (by decide)) | (exact Nat.le_trans (au70_3_4_len (by omega)).2 (by omega)) | (with_reducible exact allb_nil) | (with_reducible exact allb_one (by omega)) | (with_reducible exact allb_app (by assumption) (by omega)) | (simp only [zr] at * <;> omega) | (simp only [zo, zi, zj, zf, zn, zv, GS.nil_len, GS.nil_len, GS.some_l, List.length_set, List.length_append, List.length_cons, List.length_nil] at * <;> first | with_reducible assumption | omega) | (simp only [zo, zi, zj, zf, zn, zv, GS.nil_len, GS.nil_len, GS.some_l, List.length_set, List.length_append, List.length_cons, List.length_nil, zr] at * <;> first | with_reducible assumption | omega) | (simp at * <;> omega)), by simp only [big] <;> (first | assumption | omega | (with_reducible exact y5) | (with_reducible exact Nat.le_trans open_len (by omega)) | (exact rows_two hi0 rfl (zq (by simp)) (by simp)) | (exact rows_app (by assumption) (zq (by omega)) (by omega)) | (exact rowsR_two hi0 rfl (zZ (by decide)) (by decide)) | (exact rowsR_app (by assumption) (zZ (by omega)) (by omega)) | (with_reducible exact allb_nil) | (with_reducible exact allb_one (by omega)) | (with_reducible exact allb_app (by assumption) (by omega)) | (exact Int.le_trans (n_le (by omega)) (by decide)) | (exact Nat.le_trans (au70_3_4_len (by omega)).2 (by omega)) | (with_reducible exact allb_nil) | (with_reducible exact allb_one (by omega)) | (with_reducible exact allb_app (by assumption) (by omega)) | (simp only [zr] at * <;> omega) | (simp only [zo, zi, zj, zf, zn, zv, GS.nil_len, GS.nil_len, GS.some_l, List.length_set, List.length_append, List.length_cons, List.length_nil] at * <;> first | with_reducible assumption | omega) | (simp only [zo, zi, zj, zf, zn, zv, GS.nil_len, GS.nil_len, GS.some_l, List.length_set, List.length_append, List.length_cons, List.length_nil, zr] at * <;> first | with_reducible assumption | omega) | (simp at * <;> omega))⟩) (And.intro h23 (And.intro (shr_op (C := cfg) (t := 3) (cst := false) (nxt := 7) (a := q5_0) (b := ((i5 : Nat) : Int)) (by omega)) (And.intro (ct_at hk5) trivial))))) (by kernel_rfl) (by (simp only [sd20221, go_sem, List.length_set, Nat.reduceAdd, Nat.reduceEqDiff, Nat.reduceLT, Nat.reduceLeDiff, bI2, za.idsL, za.renL, za.snapAll, z7.idsL, z7.renL, z7.snapAll, zl.idsL, zl.renL, zl.snapAll, z8.idsL, z8.renL, z8.snapAll]) <;> rfl) (ih (i5 + 1) (va5_0 ++ [((i5 : Nat) : Int)]) va5_1 (by omega) hN5 (by with_reducible exact allb_app (by assumption) (by omega)) (by simp only [List.length_append, List.length_cons, List.length_nil] at * <;> omega) (by omega) (by omega) (by omega) (by omega) (by omega) (by omega) (by simp only [List.length_append, List.length_cons, List.length_nil] at * <;> omega) (by omega)) (by kernel_rfl)
    | false =>
      exact po_turnY' (ks := [0, 1, 3, 4, 7, 8, 11, 12]) (st' := (sd20222 n e width q1_0 i5 q5_0 va5_0 va5_1)) [.dec true, .op (some 17) ⟨I ((q5_0).fdiv (2 ^ (min (((i5 : Nat) : Int)).toNat 64))), [], [], 7⟩, .dec false, .rw 24 (I ((i5 + 1 : Nat) : Int))] (And.intro (zX (i := i5) (by omega)) (And.intro h23 (And.intro (shr_op (C := cfg) (t := 3) (cst := false) (nxt := 7) (a := q5_0) (b := ((i5 : Nat) : Int)) (by omega)) (And.intro (ct_at hk5) trivial)))) (by kernel_rfl) (by (simp only [sd20222, go_sem, List.length_set, Nat.reduceAdd, Nat.reduceEqDiff, Nat.reduceLT, Nat.reduceLeDiff, bI2, za.idsL, za.renL, za.snapAll, z7.idsL, z7.renL, z7.snapAll, zl.idsL, zl.renL, zl.snapAll, z8.idsL, z8.renL, z8.snapAll]) <;> rfl) (ih (i5 + 1) va5_0 va5_1 (by omega) hN5 (by omega) (by omega) (by omega) (by omega) (by omega) (by omega) (by omega) (by omega) (by omega) (by omega)) (by kernel_rfl)
theorem ivt_lsb_5a (n : Int) (e : S_Estate) (width : Int) (q1_0 : Int) (va1_0 : List Int) (q5_0 : Int) : ∀ (rest5 : Nat) (i5 : Nat) (va5_0 : List Int) (va5_1 : List Int) (hk5 : (n - ((i5 : Nat) : Int)).toNat = rest5) (hN5 : n ≤ 9223372036854775807) (hm5_va5_0 : ∀ i ∈ va5_0, 0 ≤ i ∧ i < ((e.items.l.length : Nat) : Int)) (hz5_va5_0 : va5_0.length ≤ 12) (hm5_va5_1 : ∀ i ∈ va5_1, 0 ≤ i ∧ i < ((e.items.l.length : Nat) : Int)) (hz5_va5_1 : va5_1.length ≤ 12) (hm5_b : ∀ i ∈ va1_0, 0 ≤ i ∧ i < ((e.items.l.length : Nat) : Int)) (hz5_b : va1_0.length ≤ 12) (hn : n = ((e.items.l.length : Nat) : Int)) (hle : e.items.l.length ≤ 12) (hg5_va5_0 : va5_0.length ≤ i5) (hL5 : n ≤ 1099511627776), iv_lsb_5 n e width q1_0 va1_0 q5_0 (lsb_5a va1_0 q5_0 rest5 i5 va5_0 va5_1) := by
  intro rest5
  induction rest5 with
  | zero =>
    intro i5 va5_0 va5_1 hk5 hN5 hm5_va5_0 hz5_va5_0 hm5_va5_1 hz5_va5_1 hm5_b hz5_b hn hle hg5_va5_0 hL5
    unfold lsb_5a
    exact ⟨hm5_va5_0, hz5_va5_0, hm5_va5_1, hz5_va5_1, hg5_va5_0⟩
  | succ rest5 ih =>
    intro i5 va5_0 va5_1 hk5 hN5 hm5_va5_0 hz5_va5_0 hm5_va5_1 hz5_va5_1 hm5_b hz5_b hn hle hg5_va5_0 hL5
    have hlt5 := of_decide_eq_true (ct_at hk5)
    unfold lsb_5a
    cases h23 : ((w64 ((BitVec.ofInt 64 ((q5_0).fdiv (2 ^ (min (((i5 : Nat) : Int)).toNat 64))) &&& BitVec.ofInt 64 1).toNat : Int)) == 1) with
    | true =>
      exact ih (i5 + 1) (va5_0 ++ [((i5 : Nat) : Int)]) va5_1 (by omega) hN5 (by with_reducible exact allb_app (by assumption) (by omega)) (by simp only [List.length_append, List.length_cons, List.length_nil] at * <;> omega) (by omega) (by omega) (by omega) (by omega) (by omega) (by omega) (by simp only [List.length_append, List.length_cons, List.length_nil] at * <;> omega) (by omega)
    | false =>
      exact ih (i5 + 1) va5_0 va5_1 (by omega) hN5 (by omega) (by omega) (by omega) (by omega) (by omega) (by omega) (by omega) (by omega) (by omega) (by omega)
theorem lp_lsb_5 (n : Int) (e : S_Estate) (width : Int) (q1_0 : Int) (va1_0 : List Int) (q5_0 : Int) : ∀ (rest5 : Nat) (i5 : Nat) (hk5 : (n - ((i5 : Nat) : Int)).toNat = rest5) (hN5 : n ≤ 9223372036854775807) (hm5_b : ∀ i ∈ va1_0, 0 ≤ i ∧ i < ((e.items.l.length : Nat) : Int)) (hz5_b : va1_0.length ≤ 12) (hn : n = ((e.items.l.length : Nat) : Int)) (hle : e.items.l.length ≤ 12) (hL5 : n ≤ 1099511627776), (lim cfg).loopY (rg20205 n e width) 96 lp96_5 ⟨30, [(0, .yld 4), (1, .ptr (I n)), (3, I q5_0), (4, .sl true [] 0 none), (7, I q1_0), (8, I q5_0), (11, I n), (12, I ((i5 : Nat) : Int))], [(0, ⟨[.fn (.func 60) [] [.ptr (.agg [.sl e.items.nl (e.items.l.map S_Item.D) (zsl e.items.nl 4) none, I e.whole.lo, I e.whole.hi]), .ptr (I width)]], 1, false⟩), (1, ⟨[.fn (.func 90) [] [.ptr (.agg [.sl e.items.nl (e.items.l.map S_Item.D) (zsl e.items.nl 4) none, I e.whole.lo, I e.whole.hi])]], 1, false⟩), (2, ⟨[.lsl 5 0 va1_0.length 1 none], 1, false⟩), (3, ⟨[B true], 1, false⟩), (5, ⟨va1_0.map I, 1, false⟩)], 6, 5⟩ = some (lr_lsb_5 n e width q1_0 va1_0 q5_0 (lsb_5 va1_0 q5_0 rest5 i5)) := by
  intro rest5
  induction rest5 with
  | zero =>
    intro i5 hk5 hN5 hm5_b hz5_b hn hle hL5
    unfold lsb_5
    exact po_lastY [.dec false] (And.intro (ct_no hk5) trivial) (by kernel_rfl)
  | succ rest5 ih =>
    intro i5 hk5 hN5 hm5_b hz5_b hn hle hL5
    have hlt5 := of_decide_eq_true (ct_at hk5)
    unfold lsb_5
    cases h24 : ((w64 ((BitVec.ofInt 64 ((q5_0).fdiv (2 ^ (min (((i5 : Nat) : Int)).toNat 64))) &&& BitVec.ofInt 64 1).toNat : Int)) == 1) with
    | true =>
      exact po_turnY' (ks := [0, 1, 3, 4, 7, 8, 11, 12]) (st' := (sd20223 n e width q1_0 i5 q5_0 va1_0)) [.dec true, .op (some 17) ⟨I ((q5_0).fdiv (2 ^ (min (((i5 : Nat) : Int)).toNat 64))), [], [], 6⟩, .dec true, .rw 24 (I ((i5 + 1 : Nat) : Int))] (And.intro (zX (i := i5) (by omega)) (And.intro h24 (And.intro (shr_op (C := cfg) (t := 3) (cst := false) (nxt := 6) (a := q5_0) (b := ((i5 : Nat) : Int)) (by omega)) (And.intro (ct_at hk5) trivial)))) (by kernel_rfl) (by (simp only [sd20223, go_sem, List.length_set, Nat.reduceAdd, Nat.reduceEqDiff, Nat.reduceLT, Nat.reduceLeDiff, bI2, za.idsL, za.renL, za.snapAll, z7.idsL, z7.renL, z7.snapAll, zl.idsL, zl.renL, zl.snapAll, z8.idsL, z8.renL, z8.snapAll]) <;> rfl) (lp_lsb_5a n e width q1_0 va1_0 q5_0 _ (i5 + 1) [((i5 : Nat) : Int)] va1_0 (by omega) hN5 (by with_reducible exact allb_one (by omega)) (by simp only [List.length_append, List.length_cons, List.length_nil] at * <;> omega) (by omega) (by omega) (by omega) (by omega) (by omega) (by omega) (by simp only [List.length_append, List.length_cons, List.length_nil] at * <;> omega) (by omega)) (by kernel_rfl)
    | false =>
      exact po_turnY' (ks := [0, 1, 3, 4, 7, 8, 11, 12]) (st' := (sd20224 n e width q1_0 i5 q5_0 va1_0)) [.dec true, .op (some 17) ⟨I ((q5_0).fdiv (2 ^ (min (((i5 : Nat) : Int)).toNat 64))), [], [], 6⟩, .dec false, .rw 24 (I ((i5 + 1 : Nat) : Int))] (And.intro (zX (i := i5) (by omega)) (And.intro h24 (And.intro (shr_op (C := cfg) (t := 3) (cst := false) (nxt := 6) (a := q5_0) (b := ((i5 : Nat) : Int)) (by omega)) (And.intro (ct_at hk5) trivial)))) (by kernel_rfl) (by (simp only [sd20224, go_sem, List.length_set, Nat.reduceAdd, Nat.reduceEqDiff, Nat.reduceLT, Nat.reduceLeDiff, bI2, za.idsL, za.renL, za.snapAll, z7.idsL, z7.renL, z7.snapAll, zl.idsL, zl.renL, zl.snapAll, z8.idsL, z8.renL, z8.snapAll]) <;> rfl) (ih (i5 + 1) (by omega) hN5 (by omega) (by omega) (by omega) (by omega) (by omega)) (by kernel_rfl)
theorem ivt_lsb_5 (n : Int) (e : S_Estate) (width : Int) (q1_0 : Int) (va1_0 : List Int) (q5_0 : Int) : ∀ (rest5 : Nat) (i5 : Nat) (hk5 : (n - ((i5 : Nat) : Int)).toNat = rest5) (hN5 : n ≤ 9223372036854775807) (hm5_b : ∀ i ∈ va1_0, 0 ≤ i ∧ i < ((e.items.l.length : Nat) : Int)) (hz5_b : va1_0.length ≤ 12) (hn : n = ((e.items.l.length : Nat) : Int)) (hle : e.items.l.length ≤ 12) (hL5 : n ≤ 1099511627776), iv_lsb_5 n e width q1_0 va1_0 q5_0 (lsb_5 va1_0 q5_0 rest5 i5) := by
  intro rest5
  induction rest5 with
  | zero =>
    intro i5 hk5 hN5 hm5_b hz5_b hn hle hL5
    unfold lsb_5
    exact trivial
  | succ rest5 ih =>
    intro i5 hk5 hN5 hm5_b hz5_b hn hle hL5
    have hlt5 := of_decide_eq_true (ct_at hk5)
    unfold lsb_5
    cases h24 : ((w64 ((BitVec.ofInt 64 ((q5_0).fdiv (2 ^ (min (((i5 : Nat) : Int)).toNat 64))) &&& BitVec.ofInt 64 1).toNat : Int)) == 1) with
    | true =>
      exact ivt_lsb_5a n e width q1_0 va1_0 q5_0 _ (i5 + 1) [((i5 : Nat) : Int)] va1_0 (by omega) hN5 (by with_reducible exact allb_one (by omega)) (by simp only [List.length_append, List.length_cons, List.length_nil] at * <;> omega) (by omega) (by omega) (by omega) (by omega) (by omega) (by omega) (by simp only [List.length_append, List.length_cons, List.length_nil] at * <;> omega) (by omega)
    | false =>
      exact ih (i5 + 1) (by omega) hN5 (by omega) (by omega) (by omega) (by omega) (by omega)

theorem nza_lsb_5 (w : List Int) (q : Int) : ∀ (rest i : Nat) (v u : List Int) (j : Nat), lsb_5a w q rest i v u ≠ .x1 j := by
  intro rest
  induction rest with
  | zero => intro i v u j h; cases h
  | succ rest ih =>
    intro i v u j
    unfold lsb_5a
    rw [Bool.cond_eq_ite]
    split
    · exact ih _ _ _ _
    · exact ih _ _ _ _
theorem nzb_lsb_5 (w : List Int) {m : Nat} (hm : m < 4611686018427387904) : ∀ (rest i : Nat) (j : Nat), i + rest ≤ 64 → lsb_5 w ((m : Nat) : Int) rest i = .x1 j → ∀ k, i ≤ k → k < i + rest → m.testBit k = false := by
  intro rest
  induction rest with
  | zero => intro i j _ _ k h1 h2; omega
  | succ rest ih =>
    intro i j hb h k h1 h2
    unfold lsb_5 at h
    rw [bt_eq hm (by omega), Bool.cond_eq_ite] at h
    split at h
    · exact absurd h (nza_lsb_5 _ _ _ _ _ _ _)
    · rename_i hc
      by_cases hk : k = i
      · subst hk; simpa using hc
      · exact ih (i + 1) j (by omega) h k (by omega) (by omega)
theorem nz_lsb_5 {e : S_Estate} {n : Int} {i1 j : Nat} (w : List Int) (hn : n = ((e.items.l.length : Nat) : Int)) (hle : e.items.l.length ≤ 12) (hlt : ((i1 : Nat) : Int) < w64 (1 * 2 ^ (min (n).toNat 64))) (h : lsb_5 w ((i1 : Nat) : Int) (n - 0).toNat 0 = .x1 j) : ¬ 1 ≤ i1 := by
  rw [shl_one (by omega) (by omega)] at hlt
  have hlt' : i1 < 2 ^ n.toNat := Int.ofNat_lt.1 hlt
  have hp : 2 ^ n.toNat ≤ 2 ^ 12 := Nat.pow_le_pow_right (by omega) (by omega)
  have := no_bits hlt' fun k hk => nzb_lsb_5 w (by omega) _ _ _ (by omega) h k (by omega) (by omega)
  omega

def sd20226 (n : Int) (e : S_Estate) (width : Int) (q1_0 : Int) (v1_0 : Bool) (i5p1 : Nat) (q5p1_0 : Int) (va5p1_0 : List Int) : St := ⟨30, [(12, I ((i5p1 + 1 : Nat) : Int)), (24, I ((i5p1 + 1 : Nat) : Int)), (4, .lsl 7 0 ((va5p1_0 ++ [((i5p1 : Nat) : Int)]).length) 1 none), (23, .lsl 7 0 ((va5p1_0 ++ [((i5p1 : Nat) : Int)]).length) 1 none), (22, .lsl 6 0 1 1 (some 1)), (21, I ((i5p1 : Nat) : Int)), (20, .lsl 5 0 va5p1_0.length 1 none), (19, B true), (18, I (w64 ((BitVec.ofInt 64 ((q5p1_0).fdiv (2 ^ (min (((i5p1 : Nat) : Int)).toNat 64))) &&& BitVec.ofInt 64 1).toNat : Int))), (17, I ((q5p1_0).fdiv (2 ^ (min (((i5p1 : Nat) : Int)).toNat 64)))), (16, I ((i5p1 : Nat) : Int)), (15, I q5p1_0), (5, I ((i5p1 : Nat) : Int)), (14, I ((i5p1 : Nat) : Int)), (13, B true), (0, .yld 4), (1, .ptr (I n)), (3, I q5p1_0), (4, .lsl 5 0 va5p1_0.length 1 none), (7, I q1_0), (8, I q5p1_0), (11, I n), (12, I ((i5p1 : Nat) : Int))], [(0, ⟨[.fn (.func 60) [] [.ptr (.agg [.sl e.items.nl (e.items.l.map S_Item.D) (zsl e.items.nl 4) none, I e.whole.lo, I e.whole.hi]), .ptr (I width)]], 1, false⟩), (1, ⟨[.fn (.func 90) [] [.ptr (.agg [.sl e.items.nl (e.items.l.map S_Item.D) (zsl e.items.nl 4) none, I e.whole.lo, I e.whole.hi])]], 1, false⟩), (2, ⟨[.sl true [] 0 none], 1, false⟩), (3, ⟨[B v1_0], 1, false⟩), (6, ⟨[I ((i5p1 : Nat) : Int)], 1, false⟩), (7, ⟨(va5p1_0 ++ [((i5p1 : Nat) : Int)]).map I, 1, false⟩)], 8, 5⟩

def sd20227 (n : Int) (e : S_Estate) (width : Int) (q1_0 : Int) (v1_0 : Bool) (i5p1 : Nat) (q5p1_0 : Int) (va5p1_0 : List Int) : St := ⟨30, [(12, I ((i5p1 + 1 : Nat) : Int)), (24, I ((i5p1 + 1 : Nat) : Int)), (19, B false), (18, I (w64 ((BitVec.ofInt 64 ((q5p1_0).fdiv (2 ^ (min (((i5p1 : Nat) : Int)).toNat 64))) &&& BitVec.ofInt 64 1).toNat : Int))), (17, I ((q5p1_0).fdiv (2 ^ (min (((i5p1 : Nat) : Int)).toNat 64)))), (16, I ((i5p1 : Nat) : Int)), (15, I q5p1_0), (5, I ((i5p1 : Nat) : Int)), (14, I ((i5p1 : Nat) : Int)), (13, B true), (0, .yld 4), (1, .ptr (I n)), (3, I q5p1_0), (4, .lsl 5 0 va5p1_0.length 1 none), (7, I q1_0), (8, I q5p1_0), (11, I n), (12, I ((i5p1 : Nat) : Int))], [(0, ⟨[.fn (.func 60) [] [.ptr (.agg [.sl e.items.nl (e.items.l.map S_Item.D) (zsl e.items.nl 4) none, I e.whole.lo, I e.whole.hi]), .ptr (I width)]], 1, false⟩), (1, ⟨[.fn (.func 90) [] [.ptr (.agg [.sl e.items.nl (e.items.l.map S_Item.D) (zsl e.items.nl 4) none, I e.whole.lo, I e.whole.hi])]], 1, false⟩), (2, ⟨[.sl true [] 0 none], 1, false⟩), (3, ⟨[B v1_0], 1, false⟩), (5, ⟨va5p1_0.map I, 1, false⟩)], 6, 5⟩

inductive LR_lsb_5p1 where
  | x0 (i5p1 : Nat) (va5p1_0 : List Int)
  | x1 (i5p1 : Nat)
instance : Inhabited LR_lsb_5p1 := ⟨.x0 default default⟩
def lsb_5p1a (q5p1_0 : Int) : Nat → Nat → (List Int) → LR_lsb_5p1
  | 0, i5p1, va5p1_0 => .x0 i5p1 va5p1_0
  | rest5p1 + 1, i5p1, va5p1_0 =>
    bif ((w64 ((BitVec.ofInt 64 ((q5p1_0).fdiv (2 ^ (min (((i5p1 : Nat) : Int)).toNat 64))) &&& BitVec.ofInt 64 1).toNat : Int)) == 1) then
      lsb_5p1a q5p1_0 rest5p1 (i5p1 + 1) (va5p1_0 ++ [((i5p1 : Nat) : Int)])
    else
      lsb_5p1a q5p1_0 rest5p1 (i5p1 + 1) va5p1_0
def lsb_5p1 (q5p1_0 : Int) : Nat → Nat → LR_lsb_5p1
  | 0, i5p1 => .x1 i5p1
  | rest5p1 + 1, i5p1 =>
    bif ((w64 ((BitVec.ofInt 64 ((q5p1_0).fdiv (2 ^ (min (((i5p1 : Nat) : Int)).toNat 64))) &&& BitVec.ofInt 64 1).toNat : Int)) == 1) then
      lsb_5p1a q5p1_0 rest5p1 (i5p1 + 1) [((i5p1 : Nat) : Int)]
    else
      lsb_5p1 q5p1_0 rest5p1 (i5p1 + 1)
def lr_lsb_5p1 (n : Int) (e : S_Estate) (width : Int) (q1_0 : Int) (v1_0 : Bool) (q5p1_0 : Int) : LR_lsb_5p1 → Exit × St × Option Code
  | .x0 i5p1 va5p1_0 => ((.exit 2), ⟨30, [(13, B false), (0, .yld 4), (1, .ptr (I n)), (3, I q5p1_0), (4, .lsl 5 0 va5p1_0.length 1 none), (7, I q1_0), (8, I q5p1_0), (11, I n), (12, I ((i5p1 : Nat) : Int))], [(0, ⟨[.fn (.func 60) [] [.ptr (.agg [.sl e.items.nl (e.items.l.map S_Item.D) (zsl e.items.nl 4) none, I e.whole.lo, I e.whole.hi]), .ptr (I width)]], 1, false⟩), (1, ⟨[.fn (.func 90) [] [.ptr (.agg [.sl e.items.nl (e.items.l.map S_Item.D) (zsl e.items.nl 4) none, I e.whole.lo, I e.whole.hi])]], 1, false⟩), (2, ⟨[.sl true [] 0 none], 1, false⟩), (3, ⟨[B v1_0], 1, false⟩), (5, ⟨va5p1_0.map I, 1, false⟩)], 6, 5⟩, none)
  | .x1 i5p1 => ((.exit 2), ⟨30, [(13, B false), (0, .yld 4), (1, .ptr (I n)), (3, I q5p1_0), (4, .sl true [] 0 none), (7, I q1_0), (8, I q5p1_0), (11, I n), (12, I ((i5p1 : Nat) : Int))], [(0, ⟨[.fn (.func 60) [] [.ptr (.agg [.sl e.items.nl (e.items.l.map S_Item.D) (zsl e.items.nl 4) none, I e.whole.lo, I e.whole.hi]), .ptr (I width)]], 1, false⟩), (1, ⟨[.fn (.func 90) [] [.ptr (.agg [.sl e.items.nl (e.items.l.map S_Item.D) (zsl e.items.nl 4) none, I e.whole.lo, I e.whole.hi])]], 1, false⟩), (2, ⟨[.sl true [] 0 none], 1, false⟩), (3, ⟨[B v1_0], 1, false⟩)], 5, 5⟩, none)
def iv_lsb_5p1 (n : Int) (e : S_Estate) (width : Int) (q1_0 : Int) (v1_0 : Bool) (q5p1_0 : Int) : LR_lsb_5p1 → Prop
  | .x0 i5p1 va5p1_0 => (∀ i ∈ va5p1_0, 0 ≤ i ∧ i < ((e.items.l.length : Nat) : Int)) ∧ (va5p1_0.length ≤ 12) ∧ (va5p1_0.length ≤ i5p1)
  | .x1 i5p1 => True
theorem lp_lsb_5p1a (n : Int) (e : S_Estate) (width : Int) (q1_0 : Int) (v1_0 : Bool) (q5p1_0 : Int) : ∀ (rest5p1 : Nat) (i5p1 : Nat) (va5p1_0 : List Int) (hk5p1 : (n - ((i5p1 : Nat) : Int)).toNat = rest5p1) (hN5p1 : n ≤ 9223372036854775807) (hm5p1_va5p1_0 : ∀ i ∈ va5p1_0, 0 ≤ i ∧ i < ((e.items.l.length : Nat) : Int)) (hz5p1_va5p1_0 : va5p1_0.length ≤ 12) (hn : n = ((e.items.l.length : Nat) : Int)) (hle : e.items.l.length ≤ 12) (hg5p1_va5p1_0 : va5p1_0.length ≤ i5p1) (hL5p1 : n ≤ 1099511627776), (lim cfg).loopY (rg20205 n e width) 96 lp96_5 ⟨30, [(0, .yld 4), (1, .ptr (I n)), (3, I q5p1_0), (4, .lsl 5 0 va5p1_0.length 1 none), (7, I q1_0), (8, I q5p1_0), (11, I n), (12, I ((i5p1 : Nat) : Int))], [(0, ⟨[.fn (.func 60) [] [.ptr (.agg [.sl e.items.nl (e.items.l.map S_Item.D) (zsl e.items.nl 4) none, I e.whole.lo, I e.whole.hi]), .ptr (I width)]], 1, false⟩), (1, ⟨[.fn (.func 90) [] [.ptr (.agg [.sl e.items.nl (e.items.l.map S_Item.D) (zsl e.items.nl 4) none, I e.whole.lo, I e.whole.hi])]], 1, false⟩), (2, ⟨[.sl true [] 0 none], 1, false⟩), (3, ⟨[B v1_0], 1, false⟩), (5, ⟨va5p1_0.map I, 1, false⟩)], 6, 5⟩ = some (lr_lsb_5p1 n e width q1_0 v1_0 q5p1_0 (lsb_5p1a q5p1_0 rest5p1 i5p1 va5p1_0)) := by
  intro rest5p1
  induction rest5p1 with
  | zero =>
    intro i5p1 va5p1_0 hk5p1 hN5p1 hm5p1_va5p1_0 hz5p1_va5p1_0 hn hle hg5p1_va5p1_0 hL5p1
    unfold lsb_5p1a
    exact po_lastY [.dec false] (And.intro (ct_no hk5p1) trivial) (by kernel_rfl)
  | succ rest5p1 ih =>
    intro i5p1 va5p1_0 hk5p1 hN5p1 hm5p1_va5p1_0 hz5p1_va5p1_0 hn hle hg5p1_va5p1_0 hL5p1
    have hlt5p1 := of_decide_eq_true (ct_at hk5p1)
    unfold lsb_5p1a
    cases h30 : ((w64 ((BitVec.ofInt 64 ((q5p1_0).fdiv (2 ^ (min (((i5p1 : Nat) : Int)).toNat 64))) &&& BitVec.ofInt 64 1).toNat : Int)) == 1) with
    | true =>
      exact po_turnY' (ks := [0, 1, 3, 4, 7, 8, 11, 12]) (st' := (sd20226 n e width q1_0 v1_0 i5p1 q5p1_0 va5p1_0)) [.dec true, .op (some 17) ⟨I ((q5p1_0).fdiv (2 ^ (min (((i5p1 : Nat) : Int)).toNat 64))), [], [], 6⟩, .dec true, .op (some 23) ⟨.lsl 7 0 ((va5p1_0 ++ [((i5p1 : Nat) : Int)]).length) 1 none, [(5, none), (7, some ⟨(va5p1_0 ++ [((i5p1 : Nat) : Int)]).map I, 1, false⟩)], [5, 6], 8⟩, .rw 24 (I ((i5p1 + 1 : Nat) : Int))] (And.intro (zX (i := i5p1) (by omega)) (And.intro (app_row (f := I) (te := ty3) (gO := zD [(0, ⟨[.fn (.func 60) [] [.ptr (.agg [.sl e.items.nl (e.items.l.map S_Item.D) (zsl e.items.nl 4) none, I e.whole.lo, I e.whole.hi]), .ptr (I width)]], 1, false⟩), (1, ⟨[.fn (.func 90) [] [.ptr (.agg [.sl e.items.nl (e.items.l.map S_Item.D) (zsl e.items.nl 4) none, I e.whole.lo, I e.whole.hi])]], 1, false⟩), (2, ⟨[.sl true [] 0 none], 1, false⟩), (3, ⟨[B v1_0], 1, false⟩), (5, ⟨va5p1_0.map I, 1, false⟩), (6, ⟨[I ((i5p1 : Nat) : Int)], 1, false⟩)]) (nxt := 7) (o := 5) (o2 := 6) (fz := false) zl va5p1_0 ((i5p1 : Nat) : Int) (by kernel_rfl) (by kernel_rfl) rfl (by kernel_rfl) (by decide) ⟨by simp only [ty3, big] <;> (first | assumption | omega | (with_reducible exact y5) | (with_reducible exact Nat.le_trans open_len (by omega)) | (exact rows_two hi0 rfl (zq (by simp)) (by simp)) | (exact rows_app (by assumption) (zq (by omega)) (by omega)) | (exact rowsR_two hi0 rfl (zZ (by decide)) (by decide)) | (exact rowsR_app (by assumption) (zZ (by omega)) (by omega)) | (with_reducible exact allb_nil) | (with_reducible exact allb_one (by omega)) | (with_reducible exact allb_app (by assumption) (by omega)) | (exact Int.le_trans (n_le (by omega)) (by decide)) | (exact Nat.le_trans (au70_3_4_len (by omega)).2 (by omega)) | (with_reducible exact allb_nil) | (with_reducible exact allb_one (by omega)) | (with_reducible exact allb_app (by assumption) (by omega)) | (simp only [zr] at * <;> omega) | (simp only [zo, zi, zj, zf, zn, zv, GS.nil_len, GS.nil_len, GS.some_l, List.length_set, List.length_append, List.length_cons, List.length_nil] at * <;> first | with_reducible assumption | omega) | (simp only [zo, zi, zj, zf, zn, zv, GS.nil_len, GS.nil_len, GS.some_l, List.length_set, List.length_append, List.length_cons, List.length_nil, zr] at * <;> first | with_reducible assumption | omega) | (simp at * <;> omega)), by simp only [big] <;> (first | assumption | omega | (with_reducible exact y5) | (with_reducible exact Nat.le_trans open_len (by omega)) | (exact rows_two hi0 rfl (zq (by simp)) (by simp)) | (exact rows_app (by assumption) (zq (by omega)) (by omega)) | (exact rowsR_two hi0 rfl (zZ (by decide)) (by decide)) | (exact rowsR_app (by assumption) (zZ (by omega)) (by omega)) | (with_reducible exact allb_nil) | (with_reducible exact allb_one (by omega)) | (with_reducible exact allb_app (by assumption) (by omega)) | (exact Int.le_trans (n_le (by omega)) (by decide)) | (exact Nat.le_trans (au70_3_4_len (by omega)).2 (by omega)) | (with_reducible exact allb_nil) | (with_reducible exact allb_one (by omega)) | (with_reducible exact allb_app (by assumption) (by omega)) | (simp only [zr] at * <;> omega) | (simp only [zo, zi, zj, zf, zn, zv, GS.nil_len, GS.nil_len, GS.some_l, List.length_set, List.length_append, List.length_cons, List.length_nil] at * <;> first | with_reducible assumption | omega) | (simp only [zo, zi, zj, zf, zn, zv, GS.nil_len, GS.nil_len, GS.some_l, List.length_set, List.length_append, List.length_cons, List.length_nil, zr] at * <;> first | with_reducible assumption | omega) | (simp at * <;> omega))⟩) (And.intro h30 (And.intro (shr_op (C := cfg) (t := 3) (cst := false) (nxt := 6) (a := q5p1_0) (b := ((i5p1 : Nat) : Int)) (by omega)) (And.intro (ct_at hk5p1) trivial))))) (by kernel_rfl) (by (simp only [sd20226, go_sem, List.length_set, Nat.reduceAdd, Nat.reduceEqDiff, Nat.reduceLT, Nat.reduceLeDiff, bI2, za.idsL, za.renL, za.snapAll, z7.idsL, z7.renL, z7.snapAll, zl.idsL, zl.renL, zl.snapAll, z8.idsL, z8.renL, z8.snapAll]) <;> rfl) (ih (i5p1 + 1) (va5p1_0 ++ [((i5p1 : Nat) : Int)]) (by omega) hN5p1 (by with_reducible exact allb_app (by assumption) (by omega)) (by simp only [List.length_append, List.length_cons, List.length_nil] at * <;> omega) (by omega) (by omega) (by simp only [List.length_append, List.length_cons, List.length_nil] at * <;> omega) (by omega)) (by kernel_rfl)
    | false =>
      exact po_turnY' (ks := [0, 1, 3, 4, 7, 8, 11, 12]) (st' := (sd20227 n e width q1_0 v1_0 i5p1 q5p1_0 va5p1_0)) [.dec true, .op (some 17) ⟨I ((q5p1_0).fdiv (2 ^ (min (((i5p1 : Nat) : Int)).toNat 64))), [], [], 6⟩, .dec false, .rw 24 (I ((i5p1 + 1 : Nat) : Int))] (And.intro (zX (i := i5p1) (by omega)) (And.intro h30 (And.intro (shr_op (C := cfg) (t := 3) (cst := false) (nxt := 6) (a := q5p1_0) (b := ((i5p1 : Nat) : Int)) (by omega)) (And.intro (ct_at hk5p1) trivial)))) (by kernel_rfl) (by (simp only [sd20227, go_sem, List.length_set, Nat.reduceAdd, Nat.reduceEqDiff, Nat.reduceLT, Nat.reduceLeDiff, bI2, za.idsL, za.renL, za.snapAll, z7.idsL, z7.renL, z7.snapAll, zl.idsL, zl.renL, zl.snapAll, z8.idsL, z8.renL, z8.snapAll]) <;> rfl) (ih (i5p1 + 1) va5p1_0 (by omega) hN5p1 (by omega) (by omega) (by omega) (by omega) (by omega) (by omega)) (by kernel_rfl)
theorem ivt_lsb_5p1a (n : Int) (e : S_Estate) (width : Int) (q1_0 : Int) (v1_0 : Bool) (q5p1_0 : Int) : ∀ (rest5p1 : Nat) (i5p1 : Nat) (va5p1_0 : List Int) (hk5p1 : (n - ((i5p1 : Nat) : Int)).toNat = rest5p1) (hN5p1 : n ≤ 9223372036854775807) (hm5p1_va5p1_0 : ∀ i ∈ va5p1_0, 0 ≤ i ∧ i < ((e.items.l.length : Nat) : Int)) (hz5p1_va5p1_0 : va5p1_0.length ≤ 12) (hn : n = ((e.items.l.length : Nat) : Int)) (hle : e.items.l.length ≤ 12) (hg5p1_va5p1_0 : va5p1_0.length ≤ i5p1) (hL5p1 : n ≤ 1099511627776), iv_lsb_5p1 n e width q1_0 v1_0 q5p1_0 (lsb_5p1a q5p1_0 rest5p1 i5p1 va5p1_0) := by
  intro rest5p1
  induction rest5p1 with
  | zero =>
    intro i5p1 va5p1_0 hk5p1 hN5p1 hm5p1_va5p1_0 hz5p1_va5p1_0 hn hle hg5p1_va5p1_0 hL5p1
    unfold lsb_5p1a
    exact ⟨hm5p1_va5p1_0, hz5p1_va5p1_0, hg5p1_va5p1_0⟩
  | succ rest5p1 ih =>
    intro i5p1 va5p1_0 hk5p1 hN5p1 hm5p1_va5p1_0 hz5p1_va5p1_0 hn hle hg5p1_va5p1_0 hL5p1
    have hlt5p1 := of_decide_eq_true (ct_at hk5p1)
    unfold lsb_5p1a
    cases h30 : ((w64 ((BitVec.ofInt 64 ((q5p1_0).fdiv (2 ^ (min (((i5p1 : Nat) : Int)).toNat 64))) &&& BitVec.ofInt 64 1).toNat : Int)) == 1) with
    | true =>
      exact ih (i5p1 + 1) (va5p1_0 ++ [((i5p1 : Nat) : Int)]) (by omega) hN5p1 (by with_reducible exact allb_app (by assumption) (by omega)) (by simp only [List.length_append, List.length_cons, List.length_nil] at * <;> omega) (by omega) (by omega) (by simp only [List.length_append, List.length_cons, List.length_nil] at * <;> omega) (by omega)
    | false =>
      exact ih (i5p1 + 1) va5p1_0 (by omega) hN5p1 (by omega) (by omega) (by omega) (by omega) (by omega) (by omega)
theorem lp_lsb_5p1 (n : Int) (e : S_Estate) (width : Int) (q1_0 : Int) (v1_0 : Bool) (q5p1_0 : Int) : ∀ (rest5p1 : Nat) (i5p1 : Nat) (hk5p1 : (n - ((i5p1 : Nat) : Int)).toNat = rest5p1) (hN5p1 : n ≤ 9223372036854775807) (hn : n = ((e.items.l.length : Nat) : Int)) (hle : e.items.l.length ≤ 12) (hL5p1 : n ≤ 1099511627776), (lim cfg).loopY (rg20205 n e width) 96 lp96_5 ⟨30, [(0, .yld 4), (1, .ptr (I n)), (3, I q5p1_0), (4, .sl true [] 0 none), (7, I q1_0), (8, I q5p1_0), (11, I n), (12, I ((i5p1 : Nat) : Int))], [(0, ⟨[.fn (.func 60) [] [.ptr (.agg [.sl e.items.nl (e.items.l.map S_Item.D) (zsl e.items.nl 4) none, I e.whole.lo, I e.whole.hi]), .ptr (I width)]], 1, false⟩), (1, ⟨[.fn (.func 90) [] [.ptr (.agg [.sl e.items.nl (e.items.l.map S_Item.D) (zsl e.items.nl 4) none, I e.whole.lo, I e.whole.hi])]], 1, false⟩), (2, ⟨[.sl true [] 0 none], 1, false⟩), (3, ⟨[B v1_0], 1, false⟩)], 5, 5⟩ = some (lr_lsb_5p1 n e width q1_0 v1_0 q5p1_0 (lsb_5p1 q5p1_0 rest5p1 i5p1)) := by
  intro rest5p1
  induction rest5p1 with
  | zero =>
    intro i5p1 hk5p1 hN5p1 hn hle hL5p1
    unfold lsb_5p1
    exact po_lastY [.dec false] (And.intro (ct_no hk5p1) trivial) (by kernel_rfl)
  | succ rest5p1 ih =>
    intro i5p1 hk5p1 hN5p1 hn hle hL5p1
    have hlt5p1 := of_decide_eq_true (ct_at hk5p1)
    unfold lsb_5p1
    cases h31 : ((w64 ((BitVec.ofInt 64 ((q5p1_0).fdiv (2 ^ (min (((i5p1 : Nat) : Int)).toNat 64))) &&& BitVec.ofInt 64 1).toNat : Int)) == 1) with
    | true =>
      exact po_turnY [.dec true, .op (some 17) ⟨I ((q5p1_0).fdiv (2 ^ (min (((i5p1 : Nat) : Int)).toNat 64))), [], [], 5⟩, .dec true, .rw 24 (I ((i5p1 + 1 : Nat) : Int))] (And.intro (zX (i := i5p1) (by omega)) (And.intro h31 (And.intro (shr_op (C := cfg) (t := 3) (cst := false) (nxt := 5) (a := q5p1_0) (b := ((i5p1 : Nat) : Int)) (by omega)) (And.intro (ct_at hk5p1) trivial)))) (lp_lsb_5p1a n e width q1_0 v1_0 q5p1_0 _ (i5p1 + 1) [((i5p1 : Nat) : Int)] (by omega) hN5p1 (by with_reducible exact allb_one (by omega)) (by simp only [List.length_append, List.length_cons, List.length_nil] at * <;> omega) (by omega) (by omega) (by simp only [List.length_append, List.length_cons, List.length_nil] at * <;> omega) (by omega)) (by kernel_rfl)
    | false =>
      exact po_turnY [.dec true, .op (some 17) ⟨I ((q5p1_0).fdiv (2 ^ (min (((i5p1 : Nat) : Int)).toNat 64))), [], [], 5⟩, .dec false, .rw 24 (I ((i5p1 + 1 : Nat) : Int))] (And.intro (zX (i := i5p1) (by omega)) (And.intro h31 (And.intro (shr_op (C := cfg) (t := 3) (cst := false) (nxt := 5) (a := q5p1_0) (b := ((i5p1 : Nat) : Int)) (by omega)) (And.intro (ct_at hk5p1) trivial)))) (ih (i5p1 + 1) (by omega) hN5p1 (by omega) (by omega) (by omega)) (by kernel_rfl)
theorem ivt_lsb_5p1 (n : Int) (e : S_Estate) (width : Int) (q1_0 : Int) (v1_0 : Bool) (q5p1_0 : Int) : ∀ (rest5p1 : Nat) (i5p1 : Nat) (hk5p1 : (n - ((i5p1 : Nat) : Int)).toNat = rest5p1) (hN5p1 : n ≤ 9223372036854775807) (hn : n = ((e.items.l.length : Nat) : Int)) (hle : e.items.l.length ≤ 12) (hL5p1 : n ≤ 1099511627776), iv_lsb_5p1 n e width q1_0 v1_0 q5p1_0 (lsb_5p1 q5p1_0 rest5p1 i5p1) := by
  intro rest5p1
  induction rest5p1 with
  | zero =>
    intro i5p1 hk5p1 hN5p1 hn hle hL5p1
    unfold lsb_5p1
    exact trivial
  | succ rest5p1 ih =>
    intro i5p1 hk5p1 hN5p1 hn hle hL5p1
    have hlt5p1 := of_decide_eq_true (ct_at hk5p1)
    unfold lsb_5p1
    cases h31 : ((w64 ((BitVec.ofInt 64 ((q5p1_0).fdiv (2 ^ (min (((i5p1 : Nat) : Int)).toNat 64))) &&& BitVec.ofInt 64 1).toNat : Int)) == 1) with
    | true =>
      exact ivt_lsb_5p1a n e width q1_0 v1_0 q5p1_0 _ (i5p1 + 1) [((i5p1 : Nat) : Int)] (by omega) hN5p1 (by with_reducible exact allb_one (by omega)) (by simp only [List.length_append, List.length_cons, List.length_nil] at * <;> omega) (by omega) (by omega) (by simp only [List.length_append, List.length_cons, List.length_nil] at * <;> omega) (by omega)
    | false =>
      exact ih (i5p1 + 1) (by omega) hN5p1 (by omega) (by omega) (by omega)


def sd20219 (n : Int) (e : S_Estate) (width : Int) (i1 : Nat) (q1_0 : Int) (va1_0 : List Int) : St := ⟨30, [(0, .yld 4), (1, .ptr (I n)), (3, I ((i1 : Nat) : Int)), (4, .sl true [] 0 none), (7, I q1_0), (8, I ((i1 : Nat) : Int)), (11, I n), (12, I 0)], [(0, ⟨[.fn (.func 60) [] [.ptr (.agg [.sl e.items.nl (e.items.l.map S_Item.D) (zsl e.items.nl 4) none, I e.whole.lo, I e.whole.hi]), .ptr (I width)]], 1, false⟩), (1, ⟨[.fn (.func 90) [] [.ptr (.agg [.sl e.items.nl (e.items.l.map S_Item.D) (zsl e.items.nl 4) none, I e.whole.lo, I e.whole.hi])]], 1, false⟩), (2, ⟨[.lsl 5 0 va1_0.length 1 none], 1, false⟩), (3, ⟨[B true], 1, false⟩), (5, ⟨va1_0.map I, 1, false⟩)], 6, 5⟩

def sd20225 (n : Int) (e : S_Estate) (width : Int) (i1 : Nat) (q1_0 : Int) (i5 : Nat) (va5_0 : List Int) (va5_1 : List Int) : St := ⟨30, [(13, B false), (0, .yld 4), (1, .ptr (I n)), (3, I ((i1 : Nat) : Int)), (4, .lsl 5 0 va5_0.length 1 none), (7, I q1_0), (8, I ((i1 : Nat) : Int)), (11, I n), (12, I ((i5 : Nat) : Int))], [(0, ⟨[.fn (.func 60) [] [.ptr (.agg [.sl e.items.nl (e.items.l.map S_Item.D) (zsl e.items.nl 4) none, I e.whole.lo, I e.whole.hi]), .ptr (I width)]], 1, false⟩), (1, ⟨[.fn (.func 90) [] [.ptr (.agg [.sl e.items.nl (e.items.l.map S_Item.D) (zsl e.items.nl 4) none, I e.whole.lo, I e.whole.hi])]], 1, false⟩), (2, ⟨[.lsl 6 0 va5_1.length 1 none], 1, false⟩), (3, ⟨[B true], 1, false⟩), (5, ⟨va5_0.map I, 1, false⟩), (6, ⟨va5_1.map I, 1, false⟩)], 7, 5⟩

def sd20218 (n : Int) (e : S_Estate) (width : Int) (i1 : Nat) (q1_0 : Int) (va1_0 : List Int) : St := ⟨30, [(12, I 0), (11, I n), (4, .sl true [] 0 none), (3, I ((i1 : Nat) : Int)), (10, I ((i1 : Nat) : Int)), (9, B true), (0, .yld 4), (1, .ptr (I n)), (7, I q1_0), (8, I ((i1 : Nat) : Int))], [(0, ⟨[.fn (.func 60) [] [.ptr (.agg [.sl e.items.nl (e.items.l.map S_Item.D) (zsl e.items.nl 4) none, I e.whole.lo, I e.whole.hi]), .ptr (I width)]], 1, false⟩), (1, ⟨[.fn (.func 90) [] [.ptr (.agg [.sl e.items.nl (e.items.l.map S_Item.D) (zsl e.items.nl 4) none, I e.whole.lo, I e.whole.hi])]], 1, false⟩), (2, ⟨[.lsl 5 0 va1_0.length 1 none], 1, false⟩), (3, ⟨[B true], 1, false⟩), (5, ⟨va1_0.map I, 1, false⟩)], 6, 5⟩

def sd20230 (n : Int) (e : S_Estate) (width : Int) (i1 : Nat) (q1_0 : Int) (i5 : Nat) (va5_0 : List Int) (va5_1 : List Int) : St := ⟨30, [(8, I ((i1 + 1 : Nat) : Int)), (29, I ((i1 + 1 : Nat) : Int)), (28, B false), (27, B true), (26, .lsl 5 0 va5_0.length 1 none), (25, .yld 4), (13, B false), (0, .yld 4), (1, .ptr (I n)), (3, I ((i1 : Nat) : Int)), (4, .lsl 5 0 va5_0.length 1 none), (7, I q1_0), (8, I ((i1 : Nat) : Int)), (11, I n), (12, I ((i5 : Nat) : Int))], [(0, ⟨[.fn (.func 60) [] [.ptr (.agg [.sl e.items.nl (e.items.l.map S_Item.D) (zsl e.items.nl 4) none, I e.whole.lo, I e.whole.hi]), .ptr (I width)]], 1, false⟩), (1, ⟨[.fn (.func 90) [] [.ptr (.agg [.sl e.items.nl (e.items.l.map S_Item.D) (zsl e.items.nl 4) none, I e.whole.lo, I e.whole.hi])]], 1, false⟩), (2, ⟨[.lsl 5 0 va5_0.length 1 none], 1, false⟩), (3, ⟨[B true], 1, false⟩), (5, ⟨va5_0.map I, 1, false⟩), (6, ⟨va5_1.map I, 1, false⟩)], 7, 5⟩

def sd20231 (n : Int) (e : S_Estate) (width : Int) (i1 : Nat) (q1_0 : Int) (i5 : Nat) (va5_0 : List Int) (va5_1 : List Int) : St := ⟨30, [(8, I ((i1 + 1 : Nat) : Int)), (29, I ((i1 + 1 : Nat) : Int)), (28, B false), (27, B true), (26, .lsl 5 0 va5_0.length 1 none), (25, .yld 4), (13, B false), (0, .yld 4), (1, .ptr (I n)), (3, I ((i1 : Nat) : Int)), (4, .lsl 5 0 va5_0.length 1 none), (7, I q1_0), (8, I ((i1 : Nat) : Int)), (11, I n), (12, I ((i5 : Nat) : Int))], [(0, ⟨[.fn (.func 60) [] [.ptr (.agg [.sl e.items.nl (e.items.l.map S_Item.D) (zsl e.items.nl 4) none, I e.whole.lo, I e.whole.hi]), .ptr (I width)]], 1, false⟩), (1, ⟨[.fn (.func 90) [] [.ptr (.agg [.sl e.items.nl (e.items.l.map S_Item.D) (zsl e.items.nl 4) none, I e.whole.lo, I e.whole.hi])]], 1, false⟩), (2, ⟨[.lsl 6 0 va5_1.length 1 none], 1, false⟩), (3, ⟨[B true], 1, false⟩), (5, ⟨va5_0.map I, 1, false⟩), (6, ⟨va5_1.map I, 1, false⟩)], 7, 5⟩

def sd20228 (n : Int) (e : S_Estate) (width : Int) (i1 : Nat) (q1_0 : Int) (v1_0 : Bool) (i5p1 : Nat) (va5p1_0 : List Int) : St := ⟨30, [(13, B false), (0, .yld 4), (1, .ptr (I n)), (3, I ((i1 : Nat) : Int)), (4, .lsl 5 0 va5p1_0.length 1 none), (7, I q1_0), (8, I ((i1 : Nat) : Int)), (11, I n), (12, I ((i5p1 : Nat) : Int))], [(0, ⟨[.fn (.func 60) [] [.ptr (.agg [.sl e.items.nl (e.items.l.map S_Item.D) (zsl e.items.nl 4) none, I e.whole.lo, I e.whole.hi]), .ptr (I width)]], 1, false⟩), (1, ⟨[.fn (.func 90) [] [.ptr (.agg [.sl e.items.nl (e.items.l.map S_Item.D) (zsl e.items.nl 4) none, I e.whole.lo, I e.whole.hi])]], 1, false⟩), (2, ⟨[.sl true [] 0 none], 1, false⟩), (3, ⟨[B v1_0], 1, false⟩), (5, ⟨va5p1_0.map I, 1, false⟩)], 6, 5⟩

def sd20229 (n : Int) (e : S_Estate) (width : Int) (i1 : Nat) (q1_0 : Int) (v1_0 : Bool) (i5p1 : Nat) : St := ⟨30, [(13, B false), (0, .yld 4), (1, .ptr (I n)), (3, I ((i1 : Nat) : Int)), (4, .sl true [] 0 none), (7, I q1_0), (8, I ((i1 : Nat) : Int)), (11, I n), (12, I ((i5p1 : Nat) : Int))], [(0, ⟨[.fn (.func 60) [] [.ptr (.agg [.sl e.items.nl (e.items.l.map S_Item.D) (zsl e.items.nl 4) none, I e.whole.lo, I e.whole.hi]), .ptr (I width)]], 1, false⟩), (1, ⟨[.fn (.func 90) [] [.ptr (.agg [.sl e.items.nl (e.items.l.map S_Item.D) (zsl e.items.nl 4) none, I e.whole.lo, I e.whole.hi])]], 1, false⟩), (2, ⟨[.sl true [] 0 none], 1, false⟩), (3, ⟨[B v1_0], 1, false⟩)], 5, 5⟩

def sd20232 (n : Int) (e : S_Estate) (width : Int) (i1 : Nat) (q1_0 : Int) (i5p1 : Nat) (va5p1_0 : List Int) : St := ⟨30, [(8, I ((i1 + 1 : Nat) : Int)), (29, I ((i1 + 1 : Nat) : Int)), (28, B false), (27, B true), (26, .lsl 5 0 va5p1_0.length 1 none), (25, .yld 4), (13, B false), (0, .yld 4), (1, .ptr (I n)), (3, I ((i1 : Nat) : Int)), (4, .lsl 5 0 va5p1_0.length 1 none), (7, I q1_0), (8, I ((i1 : Nat) : Int)), (11, I n), (12, I ((i5p1 : Nat) : Int))], [(0, ⟨[.fn (.func 60) [] [.ptr (.agg [.sl e.items.nl (e.items.l.map S_Item.D) (zsl e.items.nl 4) none, I e.whole.lo, I e.whole.hi]), .ptr (I width)]], 1, false⟩), (1, ⟨[.fn (.func 90) [] [.ptr (.agg [.sl e.items.nl (e.items.l.map S_Item.D) (zsl e.items.nl 4) none, I e.whole.lo, I e.whole.hi])]], 1, false⟩), (2, ⟨[.lsl 5 0 va5p1_0.length 1 none], 1, false⟩), (3, ⟨[B true], 1, false⟩), (5, ⟨va5p1_0.map I, 1, false⟩)], 6, 5⟩

def sd20233 (n : Int) (e : S_Estate) (width : Int) (i1 : Nat) (q1_0 : Int) (v1_0 : Bool) (i5p1 : Nat) (va5p1_0 : List Int) : St := ⟨30, [(8, I ((i1 + 1 : Nat) : Int)), (29, I ((i1 + 1 : Nat) : Int)), (28, B false), (27, B true), (26, .lsl 5 0 va5p1_0.length 1 none), (25, .yld 4), (13, B false), (0, .yld 4), (1, .ptr (I n)), (3, I ((i1 : Nat) : Int)), (4, .lsl 5 0 va5p1_0.length 1 none), (7, I q1_0), (8, I ((i1 : Nat) : Int)), (11, I n), (12, I ((i5p1 : Nat) : Int))], [(0, ⟨[.fn (.func 60) [] [.ptr (.agg [.sl e.items.nl (e.items.l.map S_Item.D) (zsl e.items.nl 4) none, I e.whole.lo, I e.whole.hi]), .ptr (I width)]], 1, false⟩), (1, ⟨[.fn (.func 90) [] [.ptr (.agg [.sl e.items.nl (e.items.l.map S_Item.D) (zsl e.items.nl 4) none, I e.whole.lo, I e.whole.hi])]], 1, false⟩), (2, ⟨[.sl true [] 0 none], 1, false⟩), (3, ⟨[B v1_0], 1, false⟩), (5, ⟨va5p1_0.map I, 1, false⟩)], 6, 5⟩

inductive LR_lsb_1 where
  | x0 (i1 : Nat) (va1_0 : List Int)
  | x1 (i1 : Nat) (v1_0 : Bool)
instance : Inhabited LR_lsb_1 := ⟨.x0 default default⟩
def lsb_1a (n : Int) (e : S_Estate) (width : Int) : Nat → Nat → (List Int) → LR_lsb_1
  | 0, i1, va1_0 => .x0 i1 va1_0
  | rest1 + 1, i1, va1_0 =>
    match lsb_5 va1_0 ((i1 : Nat) : Int) (n - 0).toNat 0 with
    | .x0 i5 va5_0 va5_1 =>
      bif decide ((zH (GS.some va5_0) (GS.some va5_1) e) < 0) then
        bif (zF (GS.some va5_0) e width) then
          lsb_1a n e width rest1 (i1 + 1) va5_0
        else
          lsb_1a n e width rest1 (i1 + 1) va5_1
      else
        lsb_1a n e width rest1 (i1 + 1) va5_1
    | .x1 _ =>
      default
def lsb_1 (n : Int) (e : S_Estate) (width : Int) : Nat → Nat → Bool → LR_lsb_1
  | 0, i1, v1_0 => .x1 i1 v1_0
  | rest1 + 1, i1, v1_0 =>
    match lsb_5p1 ((i1 : Nat) : Int) (n - 0).toNat 0 with
    | .x0 i5p1 va5p1_0 =>
      bif v1_0 then
        bif decide ((zH (GS.some va5p1_0) GS.nil e) < 0) then
          bif (zF (GS.some va5p1_0) e width) then
            lsb_1a n e width rest1 (i1 + 1) va5p1_0
          else
            lsb_1 n e width rest1 (i1 + 1) v1_0
        else
          lsb_1 n e width rest1 (i1 + 1) v1_0
      else
        bif (zF (GS.some va5p1_0) e width) then
          lsb_1a n e width rest1 (i1 + 1) va5p1_0
        else
          lsb_1 n e width rest1 (i1 + 1) v1_0
    | .x1 i5p1 =>
      bif v1_0 then
        bif decide ((zH GS.nil GS.nil e) < 0) then
          bif (zF GS.nil e width) then
            lsb_1 n e width rest1 (i1 + 1) true
          else
            lsb_1 n e width rest1 (i1 + 1) v1_0
        else
          lsb_1 n e width rest1 (i1 + 1) v1_0
      else
        bif (zF GS.nil e width) then
          lsb_1 n e width rest1 (i1 + 1) true
        else
          lsb_1 n e width rest1 (i1 + 1) v1_0
def lr_lsb_1 (n : Int) (e : S_Estate) (width : Int) (q1_0 : Int) : LR_lsb_1 → Exit × St × Option Code
  | .x0 i1 va1_0 => ((.exit 0), ⟨30, [(9, B false), (0, .yld 4), (1, .ptr (I n)), (7, I q1_0), (8, I ((i1 : Nat) : Int))], [(0, ⟨[.fn (.func 60) [] [.ptr (.agg [.sl e.items.nl (e.items.l.map S_Item.D) (zsl e.items.nl 4) none, I e.whole.lo, I e.whole.hi]), .ptr (I width)]], 1, false⟩), (1, ⟨[.fn (.func 90) [] [.ptr (.agg [.sl e.items.nl (e.items.l.map S_Item.D) (zsl e.items.nl 4) none, I e.whole.lo, I e.whole.hi])]], 1, false⟩), (2, ⟨[.lsl 5 0 va1_0.length 1 none], 1, false⟩), (3, ⟨[B true], 1, false⟩), (5, ⟨va1_0.map I, 1, false⟩)], 6, 5⟩, none)
  | .x1 i1 v1_0 => ((.exit 0), ⟨30, [(9, B false), (0, .yld 4), (1, .ptr (I n)), (7, I q1_0), (8, I ((i1 : Nat) : Int))], [(0, ⟨[.fn (.func 60) [] [.ptr (.agg [.sl e.items.nl (e.items.l.map S_Item.D) (zsl e.items.nl 4) none, I e.whole.lo, I e.whole.hi]), .ptr (I width)]], 1, false⟩), (1, ⟨[.fn (.func 90) [] [.ptr (.agg [.sl e.items.nl (e.items.l.map S_Item.D) (zsl e.items.nl 4) none, I e.whole.lo, I e.whole.hi])]], 1, false⟩), (2, ⟨[.sl true [] 0 none], 1, false⟩), (3, ⟨[B v1_0], 1, false⟩)], 5, 5⟩, none)
def iv_lsb_1 (n : Int) (e : S_Estate) (width : Int) (q1_0 : Int) : LR_lsb_1 → Prop
  | .x0 i1 va1_0 => (∀ i ∈ va1_0, 0 ≤ i ∧ i < ((e.items.l.length : Nat) : Int)) ∧ (va1_0.length ≤ 12)
  | .x1 i1 v1_0 => True
def lsb_1a_c_o1 (n : Int) (e : S_Estate) (width : Int) (i1 : Nat) (q1_0 : Int) (i5 : Nat) (va5_0 : List Int) (va1_0 : List Int) (va5_1 : List Int) : List Ora := [.dec true, .gloopY (sd20219 n e width i1 q1_0 va1_0) (.exit 2) (sd20225 n e width i1 q1_0 i5 va5_0 va5_1) none, .dec true, .pureS (I (zH (GS.some va5_0) (GS.some va5_1) e)) true [(5, .sl false (va5_0.map I) 1 none, [5]), (6, .sl false (va5_1.map I) 1 none, [6])]]
theorem lp_lsb_1a (n : Int) (e : S_Estate) (width : Int) (q1_0 : Int) : ∀ (rest1 : Nat) (i1 : Nat) (va1_0 : List Int) (hk1 : (q1_0 - ((i1 : Nat) : Int)).toNat = rest1) (hN1 : q1_0 ≤ 9223372036854775807) (hm1_va1_0 : ∀ i ∈ va1_0, 0 ≤ i ∧ i < ((e.items.l.length : Nat) : Int)) (hz1_va1_0 : va1_0.length ≤ 12) (hx1 : 1 ≤ i1) (hq1 : q1_0 = w64 (1 * 2 ^ (min (n).toNat 64))) (hn : n = ((e.items.l.length : Nat) : Int)) (hle : e.items.l.length ≤ 12), (lim cfg).loopY (rg20205 n e width) 96 lp96_1 ⟨30, [(0, .yld 4), (1, .ptr (I n)), (7, I q1_0), (8, I ((i1 : Nat) : Int))], [(0, ⟨[.fn (.func 60) [] [.ptr (.agg [.sl e.items.nl (e.items.l.map S_Item.D) (zsl e.items.nl 4) none, I e.whole.lo, I e.whole.hi]), .ptr (I width)]], 1, false⟩), (1, ⟨[.fn (.func 90) [] [.ptr (.agg [.sl e.items.nl (e.items.l.map S_Item.D) (zsl e.items.nl 4) none, I e.whole.lo, I e.whole.hi])]], 1, false⟩), (2, ⟨[.lsl 5 0 va1_0.length 1 none], 1, false⟩), (3, ⟨[B true], 1, false⟩), (5, ⟨va1_0.map I, 1, false⟩)], 6, 5⟩ = some (lr_lsb_1 n e width q1_0 (lsb_1a n e width rest1 i1 va1_0)) := by
  intro rest1
  induction rest1 with
  | zero =>
    intro i1 va1_0 hk1 hN1 hm1_va1_0 hz1_va1_0 hx1 hq1 hn hle
    unfold lsb_1a
    exact po_lastY [.dec false] (And.intro (ct_no hk1) trivial) (by kernel_rfl)
  | succ rest1 ih =>
    intro i1 va1_0 hk1 hN1 hm1_va1_0 hz1_va1_0 hx1 hq1 hn hle
    have hlt1 := of_decide_eq_true (ct_at hk1)
    unfold lsb_1a
    have p1 := (gc_of (C := cfg) (f := 96) (a := lp96_5) (ks := [0, 1, 3, 4, 7, 8, 11, 12]) (st := (sd20218 n e width i1 q1_0 va1_0)) (st1 := (sd20219 n e width i1 q1_0 va1_0)) (by kernel_rfl) (by (simp only [sd20218, sd20219, go_sem, List.length_set, Nat.reduceAdd, Nat.reduceEqDiff, Nat.reduceLT, Nat.reduceLeDiff, bI2, za.idsL, za.renL, za.snapAll, z7.idsL, z7.renL, z7.snapAll, zl.idsL, zl.renL, zl.snapAll, z8.idsL, z8.renL, z8.snapAll]) <;> rfl))
    cases h25 : lsb_5 va1_0 ((i1 : Nat) : Int) (n - 0).toNat 0 with
    | x0 i5 va5_0 va5_1 =>
      try dsimp only
      have hv_h25 := ivt_lsb_5 n e width q1_0 va1_0 ((i1 : Nat) : Int) (n - 0).toNat 0 (by omega) (by omega) (by omega) (by omega) (by omega) (by omega) (by omega)
      rw [h25] at hv_h25
      obtain ⟨hv_h25_0, hv_h25_1, hv_h25_2, hv_h25_3, hv_h25_4⟩ := hv_h25
      try dsimp only [iv_lsb_5] at hv_h25_0
      try dsimp only [iv_lsb_5] at hv_h25_1
      try dsimp only [iv_lsb_5] at hv_h25_2
      try dsimp only [iv_lsb_5] at hv_h25_3
      try dsimp only [iv_lsb_5] at hv_h25_4
      have p2 := (po_lrY (q := lr_lsb_5 n e width q1_0 va1_0 ((i1 : Nat) : Int)) (lp_lsb_5 n e width q1_0 va1_0 ((i1 : Nat) : Int) (n - 0).toNat 0 (by omega) (by omega) (by omega) (by omega) (by omega) (by omega) (by omega)) h25)
      have p3 := (And.intro (show flat fuelD (I (zH (GS.some va5_0) (GS.some va5_1) e)) = true from (by kernel_rfl)) (And.intro (And.intro (snap_row (gO := zD [(0, ⟨[.fn (.func 60) [] [.ptr (.agg [.sl e.items.nl (e.items.l.map S_Item.D) (zsl e.items.nl 4) none, I e.whole.lo, I e.whole.hi]), .ptr (I width)]], 1, false⟩), (1, ⟨[.fn (.func 90) [] [.ptr (.agg [.sl e.items.nl (e.items.l.map S_Item.D) (zsl e.items.nl 4) none, I e.whole.lo, I e.whole.hi])]], 1, false⟩), (2, ⟨[.lsl 6 0 va5_1.length 1 none], 1, false⟩), (3, ⟨[B true], 1, false⟩), (5, ⟨va5_0.map I, 1, false⟩), (6, ⟨va5_1.map I, 1, false⟩)]) (o := 6) (len := va5_1.length) (cap := none) (fz := false) zl va5_1 (by kernel_rfl) (by omega)) (And.intro (snap_row (gO := zD [(0, ⟨[.fn (.func 60) [] [.ptr (.agg [.sl e.items.nl (e.items.l.map S_Item.D) (zsl e.items.nl 4) none, I e.whole.lo, I e.whole.hi]), .ptr (I width)]], 1, false⟩), (1, ⟨[.fn (.func 90) [] [.ptr (.agg [.sl e.items.nl (e.items.l.map S_Item.D) (zsl e.items.nl 4) none, I e.whole.lo, I e.whole.hi])]], 1, false⟩), (2, ⟨[.lsl 6 0 va5_1.length 1 none], 1, false⟩), (3, ⟨[B true], 1, false⟩), (5, ⟨va5_0.map I, 1, false⟩), (6, ⟨va5_1.map I, 1, false⟩)]) (o := 5) (len := va5_0.length) (cap := none) (fz := false) zl va5_0 (by kernel_rfl) (by omega)) trivial)) (T_orders_cheapest_1 (GS.some va5_0) (GS.some va5_1) e (by assumption) (by assumption) (by simp only [zo, zi, zj, zf, zn, zv, GS.nil_len, GS.nil_len, GS.some_l, List.length_set, List.length_append, List.length_cons, List.length_nil] at * <;> first | with_reducible assumption | omega) (by simp only [zo, zi, zj, zf, zn, zv, GS.nil_len, GS.nil_len, GS.some_l, List.length_set, List.length_append, List.length_cons, List.length_nil] at * <;> first | with_reducible assumption | omega))))
      cases h26 : decide ((zH (GS.some va5_0) (GS.some va5_1) e) < 0) with
      | true =>
        have g26 := of_decide_eq_true h26
        have p4 := (And.intro (show flat fuelD (B (zF (GS.some va5_0) e width)) = true from (by kernel_rfl)) (And.intro (And.intro (snap_row (gO := zD [(0, ⟨[.fn (.func 60) [] [.ptr (.agg [.sl e.items.nl (e.items.l.map S_Item.D) (zsl e.items.nl 4) none, I e.whole.lo, I e.whole.hi]), .ptr (I width)]], 1, false⟩), (1, ⟨[.fn (.func 90) [] [.ptr (.agg [.sl e.items.nl (e.items.l.map S_Item.D) (zsl e.items.nl 4) none, I e.whole.lo, I e.whole.hi])]], 1, false⟩), (2, ⟨[.lsl 6 0 va5_1.length 1 none], 1, false⟩), (3, ⟨[B true], 1, false⟩), (5, ⟨va5_0.map I, 1, false⟩), (6, ⟨va5_1.map I, 1, false⟩)]) (o := 5) (len := va5_0.length) (cap := none) (fz := false) zl va5_0 (by kernel_rfl) (by omega)) trivial) (T_orders_Best_1 (GS.some va5_0) e width (by assumption) (by simp only [zo, zi, zj, zf, zn, zv, GS.nil_len, GS.nil_len, GS.some_l, List.length_set, List.length_append, List.length_cons, List.length_nil] at * <;> first | with_reducible assumption | omega) (by omega))))
        cases h27 : (zF (GS.some va5_0) e width) with
        | true =>
          exact po_turnY' (ks := [0, 1, 7, 8]) (st' := (sd20230 n e width i1 q1_0 i5 va5_0 va5_1)) ((lsb_1a_c_o1 n e width i1 q1_0 i5 va5_0 va1_0 va5_1) ++ [.dec true, .pureS (B (zF (GS.some va5_0) e width)) true [(5, .sl false (va5_0.map I) 1 none, [5])], .dec true, .rw 29 (I ((i1 + 1 : Nat) : Int))]) (And.intro (zX (i := i1) (by omega)) (And.intro h27 (And.intro p4 (And.intro h26 (And.intro p3 (And.intro (Eq.refl true) (And.intro p2 (And.intro p1 (And.intro (ct_at hk1) trivial))))))))) (by kernel_rfl) (by (simp only [sd20230, go_sem, List.length_set, Nat.reduceAdd, Nat.reduceEqDiff, Nat.reduceLT, Nat.reduceLeDiff, bI2, za.idsL, za.renL, za.snapAll, z7.idsL, z7.renL, z7.snapAll, zl.idsL, zl.renL, zl.snapAll, z8.idsL, z8.renL, z8.snapAll]) <;> rfl) (ih (i1 + 1) va5_0 (by omega) hN1 (by omega) (by omega) (by omega) (by omega) (by omega) (by omega)) (by kernel_rfl)
        | false =>
          exact po_turnY' (ks := [0, 1, 7, 8]) (st' := (sd20231 n e width i1 q1_0 i5 va5_0 va5_1)) ((lsb_1a_c_o1 n e width i1 q1_0 i5 va5_0 va1_0 va5_1) ++ [.dec true, .pureS (B (zF (GS.some va5_0) e width)) true [(5, .sl false (va5_0.map I) 1 none, [5])], .dec false, .rw 29 (I ((i1 + 1 : Nat) : Int))]) (And.intro (zX (i := i1) (by omega)) (And.intro h27 (And.intro p4 (And.intro h26 (And.intro p3 (And.intro (Eq.refl true) (And.intro p2 (And.intro p1 (And.intro (ct_at hk1) trivial))))))))) (by kernel_rfl) (by (simp only [sd20231, go_sem, List.length_set, Nat.reduceAdd, Nat.reduceEqDiff, Nat.reduceLT, Nat.reduceLeDiff, bI2, za.idsL, za.renL, za.snapAll, z7.idsL, z7.renL, z7.snapAll, zl.idsL, zl.renL, zl.snapAll, z8.idsL, z8.renL, z8.snapAll]) <;> rfl) (ih (i1 + 1) va5_1 (by omega) hN1 (by omega) (by omega) (by omega) (by omega) (by omega) (by omega)) (by kernel_rfl)
      | false =>
        have g26 := of_decide_eq_false h26
        exact po_turnY' (ks := [0, 1, 7, 8]) (st' := (sd20231 n e width i1 q1_0 i5 va5_0 va5_1)) ((lsb_1a_c_o1 n e width i1 q1_0 i5 va5_0 va1_0 va5_1) ++ [.dec false, .rw 29 (I ((i1 + 1 : Nat) : Int))]) (And.intro (zX (i := i1) (by omega)) (And.intro h26 (And.intro p3 (And.intro (Eq.refl true) (And.intro p2 (And.intro p1 (And.intro (ct_at hk1) trivial))))))) (by kernel_rfl) (by (simp only [sd20231, go_sem, List.length_set, Nat.reduceAdd, Nat.reduceEqDiff, Nat.reduceLT, Nat.reduceLeDiff, bI2, za.idsL, za.renL, za.snapAll, z7.idsL, z7.renL, z7.snapAll, zl.idsL, zl.renL, zl.snapAll, z8.idsL, z8.renL, z8.snapAll]) <;> rfl) (ih (i1 + 1) va5_1 (by omega) hN1 (by omega) (by omega) (by omega) (by omega) (by omega) (by omega)) (by kernel_rfl)
    | x1 _ =>
      exact absurd hx1 (nz_lsb_5 va1_0 hn hle (by rw [← hq1]; exact hlt1) h25)
theorem ivt_lsb_1a (n : Int) (e : S_Estate) (width : Int) (q1_0 : Int) : ∀ (rest1 : Nat) (i1 : Nat) (va1_0 : List Int) (hk1 : (q1_0 - ((i1 : Nat) : Int)).toNat = rest1) (hN1 : q1_0 ≤ 9223372036854775807) (hm1_va1_0 : ∀ i ∈ va1_0, 0 ≤ i ∧ i < ((e.items.l.length : Nat) : Int)) (hz1_va1_0 : va1_0.length ≤ 12) (hx1 : 1 ≤ i1) (hq1 : q1_0 = w64 (1 * 2 ^ (min (n).toNat 64))) (hn : n = ((e.items.l.length : Nat) : Int)) (hle : e.items.l.length ≤ 12), iv_lsb_1 n e width q1_0 (lsb_1a n e width rest1 i1 va1_0) := by
  intro rest1
  induction rest1 with
  | zero =>
    intro i1 va1_0 hk1 hN1 hm1_va1_0 hz1_va1_0 hx1 hq1 hn hle
    unfold lsb_1a
    exact ⟨hm1_va1_0, hz1_va1_0⟩
  | succ rest1 ih =>
    intro i1 va1_0 hk1 hN1 hm1_va1_0 hz1_va1_0 hx1 hq1 hn hle
    have hlt1 := of_decide_eq_true (ct_at hk1)
    unfold lsb_1a
    cases h25 : lsb_5 va1_0 ((i1 : Nat) : Int) (n - 0).toNat 0 with
    | x0 i5 va5_0 va5_1 =>
      try dsimp only
      have hv_h25 := ivt_lsb_5 n e width q1_0 va1_0 ((i1 : Nat) : Int) (n - 0).toNat 0 (by omega) (by omega) (by omega) (by omega) (by omega) (by omega) (by omega)
      rw [h25] at hv_h25
      obtain ⟨hv_h25_0, hv_h25_1, hv_h25_2, hv_h25_3, hv_h25_4⟩ := hv_h25
      try dsimp only [iv_lsb_5] at hv_h25_0
      try dsimp only [iv_lsb_5] at hv_h25_1
      try dsimp only [iv_lsb_5] at hv_h25_2
      try dsimp only [iv_lsb_5] at hv_h25_3
      try dsimp only [iv_lsb_5] at hv_h25_4
      cases h26 : decide ((zH (GS.some va5_0) (GS.some va5_1) e) < 0) with
      | true =>
        have g26 := of_decide_eq_true h26
        cases h27 : (zF (GS.some va5_0) e width) with
        | true =>
          exact ih (i1 + 1) va5_0 (by omega) hN1 (by omega) (by omega) (by omega) (by omega) (by omega) (by omega)
        | false =>
          exact ih (i1 + 1) va5_1 (by omega) hN1 (by omega) (by omega) (by omega) (by omega) (by omega) (by omega)
      | false =>
        have g26 := of_decide_eq_false h26
        exact ih (i1 + 1) va5_1 (by omega) hN1 (by omega) (by omega) (by omega) (by omega) (by omega) (by omega)
    | x1 _ =>
      exact absurd hx1 (nz_lsb_5 va1_0 hn hle (by rw [← hq1]; exact hlt1) h25)
def lsb_1_c_o1 (n : Int) (e : S_Estate) (width : Int) (i1 : Nat) (q1_0 : Int) (v1_0 : Bool) (i5p1 : Nat) (va5p1_0 : List Int) : List Ora := [.dec true, .loopY (.exit 2) (sd20228 n e width i1 q1_0 v1_0 i5p1 va5p1_0) none, .dec true, .pureS (I (zH (GS.some va5p1_0) GS.nil e)) true [(5, .sl false (va5p1_0.map I) 1 none, [5])]]
def lsb_1_c_o2 (n : Int) (e : S_Estate) (width : Int) (i1 : Nat) (q1_0 : Int) (v1_0 : Bool) (i5p1 : Nat) (va5p1_0 : List Int) : List Ora := [.dec true, .loopY (.exit 2) (sd20228 n e width i1 q1_0 v1_0 i5p1 va5p1_0) none, .dec false, .pureS (B (zF (GS.some va5p1_0) e width)) true [(5, .sl false (va5p1_0.map I) 1 none, [5])]]
def lsb_1_c_o3 (n : Int) (e : S_Estate) (width : Int) (i1 : Nat) (q1_0 : Int) (v1_0 : Bool) (i5p1 : Nat) : List Ora := [.dec true, .loopY (.exit 2) (sd20229 n e width i1 q1_0 v1_0 i5p1) none, .dec true, .pure (I (zH GS.nil GS.nil e))]
def lsb_1_c_o4 (n : Int) (e : S_Estate) (width : Int) (i1 : Nat) (q1_0 : Int) (v1_0 : Bool) (i5p1 : Nat) : List Ora := [.dec true, .loopY (.exit 2) (sd20229 n e width i1 q1_0 v1_0 i5p1) none, .dec false, .pure (B (zF GS.nil e width))]
theorem lp_lsb_1 (n : Int) (e : S_Estate) (width : Int) (q1_0 : Int) : ∀ (rest1 : Nat) (i1 : Nat) (v1_0 : Bool) (hk1 : (q1_0 - ((i1 : Nat) : Int)).toNat = rest1) (hN1 : q1_0 ≤ 9223372036854775807) (hq1 : q1_0 = w64 (1 * 2 ^ (min (n).toNat 64))) (hn : n = ((e.items.l.length : Nat) : Int)) (hle : e.items.l.length ≤ 12), (lim cfg).loopY (rg20205 n e width) 96 lp96_1 ⟨30, [(0, .yld 4), (1, .ptr (I n)), (7, I q1_0), (8, I ((i1 : Nat) : Int))], [(0, ⟨[.fn (.func 60) [] [.ptr (.agg [.sl e.items.nl (e.items.l.map S_Item.D) (zsl e.items.nl 4) none, I e.whole.lo, I e.whole.hi]), .ptr (I width)]], 1, false⟩), (1, ⟨[.fn (.func 90) [] [.ptr (.agg [.sl e.items.nl (e.items.l.map S_Item.D) (zsl e.items.nl 4) none, I e.whole.lo, I e.whole.hi])]], 1, false⟩), (2, ⟨[.sl true [] 0 none], 1, false⟩), (3, ⟨[B v1_0], 1, false⟩)], 5, 5⟩ = some (lr_lsb_1 n e width q1_0 (lsb_1 n e width rest1 i1 v1_0)) := by
  intro rest1
  induction rest1 with
  | zero =>
    intro i1 v1_0 hk1 hN1 hq1 hn hle
    unfold lsb_1
    exact po_lastY [.dec false] (And.intro (ct_no hk1) trivial) (by kernel_rfl)
  | succ rest1 ih =>
    intro i1 v1_0 hk1 hN1 hq1 hn hle
    have hlt1 := of_decide_eq_true (ct_at hk1)
    unfold lsb_1
    cases h32 : lsb_5p1 ((i1 : Nat) : Int) (n - 0).toNat 0 with
    | x0 i5p1 va5p1_0 =>
      try dsimp only
      have hv_h32 := ivt_lsb_5p1 n e width q1_0 v1_0 ((i1 : Nat) : Int) (n - 0).toNat 0 (by omega) (by omega) (by omega) (by omega) (by omega)
      rw [h32] at hv_h32
      obtain ⟨hv_h32_0, hv_h32_1, hv_h32_2⟩ := hv_h32
      try dsimp only [iv_lsb_5p1] at hv_h32_0
      try dsimp only [iv_lsb_5p1] at hv_h32_1
      try dsimp only [iv_lsb_5p1] at hv_h32_2
      have p1 := (po_lrY (q := lr_lsb_5p1 n e width q1_0 v1_0 ((i1 : Nat) : Int)) (lp_lsb_5p1 n e width q1_0 v1_0 ((i1 : Nat) : Int) (n - 0).toNat 0 (by omega) (by omega) (by omega) (by omega) (by omega)) h32)
      rcases Bool.eq_false_or_eq_true v1_0 with h33 | h33
      · rw [cond_t h33]
        have p2 := (And.intro (show flat fuelD (I (zH (GS.some va5p1_0) GS.nil e)) = true from (by kernel_rfl)) (And.intro (And.intro (snap_row (gO := zD [(0, ⟨[.fn (.func 60) [] [.ptr (.agg [.sl e.items.nl (e.items.l.map S_Item.D) (zsl e.items.nl 4) none, I e.whole.lo, I e.whole.hi]), .ptr (I width)]], 1, false⟩), (1, ⟨[.fn (.func 90) [] [.ptr (.agg [.sl e.items.nl (e.items.l.map S_Item.D) (zsl e.items.nl 4) none, I e.whole.lo, I e.whole.hi])]], 1, false⟩), (2, ⟨[.sl true [] 0 none], 1, false⟩), (3, ⟨[B v1_0], 1, false⟩), (5, ⟨va5p1_0.map I, 1, false⟩)]) (o := 5) (len := va5p1_0.length) (cap := none) (fz := false) zl va5p1_0 (by kernel_rfl) (by omega)) trivial) (T_orders_cheapest_1 (GS.some va5p1_0) GS.nil e (by assumption) (by with_reducible exact allb_nil) (by simp only [zo, zi, zj, zf, zn, zv, GS.nil_len, GS.nil_len, GS.some_l, List.length_set, List.length_append, List.length_cons, List.length_nil] at * <;> first | with_reducible assumption | omega) (by simp only [zo, zi, zj, zf, zn, zv, GS.nil_len, GS.nil_len, GS.some_l, List.length_set, List.length_append, List.length_cons, List.length_nil] at * <;> first | with_reducible assumption | omega))))
        cases h34 : decide ((zH (GS.some va5p1_0) GS.nil e) < 0) with
        | true =>
          have g34 := of_decide_eq_true h34
          have p3 := (And.intro (show flat fuelD (B (zF (GS.some va5p1_0) e width)) = true from (by kernel_rfl)) (And.intro (And.intro (snap_row (gO := zD [(0, ⟨[.fn (.func 60) [] [.ptr (.agg [.sl e.items.nl (e.items.l.map S_Item.D) (zsl e.items.nl 4) none, I e.whole.lo, I e.whole.hi]), .ptr (I width)]], 1, false⟩), (1, ⟨[.fn (.func 90) [] [.ptr (.agg [.sl e.items.nl (e.items.l.map S_Item.D) (zsl e.items.nl 4) none, I e.whole.lo, I e.whole.hi])]], 1, false⟩), (2, ⟨[.sl true [] 0 none], 1, false⟩), (3, ⟨[B v1_0], 1, false⟩), (5, ⟨va5p1_0.map I, 1, false⟩)]) (o := 5) (len := va5p1_0.length) (cap := none) (fz := false) zl va5p1_0 (by kernel_rfl) (by omega)) trivial) (T_orders_Best_1 (GS.some va5p1_0) e width (by assumption) (by simp only [zo, zi, zj, zf, zn, zv, GS.nil_len, GS.nil_len, GS.some_l, List.length_set, List.length_append, List.length_cons, List.length_nil] at * <;> first | with_reducible assumption | omega) (by omega))))
          cases h35 : (zF (GS.some va5p1_0) e width) with
          | true =>
            exact po_turnY' (ks := [0, 1, 7, 8]) (st' := (sd20232 n e width i1 q1_0 i5p1 va5p1_0)) ((lsb_1_c_o1 n e width i1 q1_0 v1_0 i5p1 va5p1_0) ++ [.dec true, .pureS (B (zF (GS.some va5p1_0) e width)) true [(5, .sl false (va5p1_0.map I) 1 none, [5])], .dec true, .rw 29 (I ((i1 + 1 : Nat) : Int))]) (And.intro (zX (i := i1) (by omega)) (And.intro h35 (And.intro p3 (And.intro h34 (And.intro p2 (And.intro h33 (And.intro p1 (And.intro (ct_at hk1) trivial)))))))) (by kernel_rfl) (by (simp only [sd20232, go_sem, List.length_set, Nat.reduceAdd, Nat.reduceEqDiff, Nat.reduceLT, Nat.reduceLeDiff, bI2, za.idsL, za.renL, za.snapAll, z7.idsL, z7.renL, z7.snapAll, zl.idsL, zl.renL, zl.snapAll, z8.idsL, z8.renL, z8.snapAll]) <;> rfl) (lp_lsb_1a n e width q1_0 _ (i1 + 1) va5p1_0 (by omega) hN1 (by omega) (by omega) (by omega) (by omega) (by omega) (by omega)) (by kernel_rfl)
          | false =>
            exact po_turnY' (ks := [0, 1, 7, 8]) (st' := (sd20233 n e width i1 q1_0 v1_0 i5p1 va5p1_0)) ((lsb_1_c_o1 n e width i1 q1_0 v1_0 i5p1 va5p1_0) ++ [.dec true, .pureS (B (zF (GS.some va5p1_0) e width)) true [(5, .sl false (va5p1_0.map I) 1 none, [5])], .dec false, .rw 29 (I ((i1 + 1 : Nat) : Int))]) (And.intro (zX (i := i1) (by omega)) (And.intro h35 (And.intro p3 (And.intro h34 (And.intro p2 (And.intro h33 (And.intro p1 (And.intro (ct_at hk1) trivial)))))))) (by kernel_rfl) (by (simp only [sd20233, go_sem, List.length_set, Nat.reduceAdd, Nat.reduceEqDiff, Nat.reduceLT, Nat.reduceLeDiff, bI2, za.idsL, za.renL, za.snapAll, z7.idsL, z7.renL, z7.snapAll, zl.idsL, zl.renL, zl.snapAll, z8.idsL, z8.renL, z8.snapAll]) <;> rfl) (ih (i1 + 1) v1_0 (by omega) hN1 (by omega) (by omega) (by omega)) (by kernel_rfl)
        | false =>
          have g34 := of_decide_eq_false h34
          exact po_turnY' (ks := [0, 1, 7, 8]) (st' := (sd20233 n e width i1 q1_0 v1_0 i5p1 va5p1_0)) ((lsb_1_c_o1 n e width i1 q1_0 v1_0 i5p1 va5p1_0) ++ [.dec false, .rw 29 (I ((i1 + 1 : Nat) : Int))]) (And.intro (zX (i := i1) (by omega)) (And.intro h34 (And.intro p2 (And.intro h33 (And.intro p1 (And.intro (ct_at hk1) trivial)))))) (by kernel_rfl) (by (simp only [sd20233, go_sem, List.length_set, Nat.reduceAdd, Nat.reduceEqDiff, Nat.reduceLT, Nat.reduceLeDiff, bI2, za.idsL, za.renL, za.snapAll, z7.idsL, z7.renL, z7.snapAll, zl.idsL, zl.renL, zl.snapAll, z8.idsL, z8.renL, z8.snapAll]) <;> rfl) (ih (i1 + 1) v1_0 (by omega) hN1 (by omega) (by omega) (by omega)) (by kernel_rfl)
      · rw [cond_f h33]
        have p4 := (And.intro (show flat fuelD (B (zF (GS.some va5p1_0) e width)) = true from (by kernel_rfl)) (And.intro (And.intro (snap_row (gO := zD [(0, ⟨[.fn (.func 60) [] [.ptr (.agg [.sl e.items.nl (e.items.l.map S_Item.D) (zsl e.items.nl 4) none, I e.whole.lo, I e.whole.hi]), .ptr (I width)]], 1, false⟩), (1, ⟨[.fn (.func 90) [] [.ptr (.agg [.sl e.items.nl (e.items.l.map S_Item.D) (zsl e.items.nl 4) none, I e.whole.lo, I e.whole.hi])]], 1, false⟩), (2, ⟨[.sl true [] 0 none], 1, false⟩), (3, ⟨[B v1_0], 1, false⟩), (5, ⟨va5p1_0.map I, 1, false⟩)]) (o := 5) (len := va5p1_0.length) (cap := none) (fz := false) zl va5p1_0 (by kernel_rfl) (by omega)) trivial) (T_orders_Best_1 (GS.some va5p1_0) e width (by assumption) (by simp only [zo, zi, zj, zf, zn, zv, GS.nil_len, GS.nil_len, GS.some_l, List.length_set, List.length_append, List.length_cons, List.length_nil] at * <;> first | with_reducible assumption | omega) (by omega))))
        cases h36 : (zF (GS.some va5p1_0) e width) with
        | true =>
          exact po_turnY' (ks := [0, 1, 7, 8]) (st' := (sd20232 n e width i1 q1_0 i5p1 va5p1_0)) ((lsb_1_c_o2 n e width i1 q1_0 v1_0 i5p1 va5p1_0) ++ [.dec true, .rw 29 (I ((i1 + 1 : Nat) : Int))]) (And.intro (zX (i := i1) (by omega)) (And.intro h36 (And.intro p4 (And.intro h33 (And.intro p1 (And.intro (ct_at hk1) trivial)))))) (by kernel_rfl) (by (simp only [sd20232, go_sem, List.length_set, Nat.reduceAdd, Nat.reduceEqDiff, Nat.reduceLT, Nat.reduceLeDiff, bI2, za.idsL, za.renL, za.snapAll, z7.idsL, z7.renL, z7.snapAll, zl.idsL, zl.renL, zl.snapAll, z8.idsL, z8.renL, z8.snapAll]) <;> rfl) (lp_lsb_1a n e width q1_0 _ (i1 + 1) va5p1_0 (by omega) hN1 (by omega) (by omega) (by omega) (by omega) (by omega) (by omega)) (by kernel_rfl)
        | false =>
          exact po_turnY' (ks := [0, 1, 7, 8]) (st' := (sd20233 n e width i1 q1_0 v1_0 i5p1 va5p1_0)) ((lsb_1_c_o2 n e width i1 q1_0 v1_0 i5p1 va5p1_0) ++ [.dec false, .rw 29 (I ((i1 + 1 : Nat) : Int))]) (And.intro (zX (i := i1) (by omega)) (And.intro h36 (And.intro p4 (And.intro h33 (And.intro p1 (And.intro (ct_at hk1) trivial)))))) (by kernel_rfl) (by (simp only [sd20233, go_sem, List.length_set, Nat.reduceAdd, Nat.reduceEqDiff, Nat.reduceLT, Nat.reduceLeDiff, bI2, za.idsL, za.renL, za.snapAll, z7.idsL, z7.renL, z7.snapAll, zl.idsL, zl.renL, zl.snapAll, z8.idsL, z8.renL, z8.snapAll]) <;> rfl) (ih (i1 + 1) v1_0 (by omega) hN1 (by omega) (by omega) (by omega)) (by kernel_rfl)
    | x1 i5p1 =>
      try dsimp only
      have p5 := (po_lrY (q := lr_lsb_5p1 n e width q1_0 v1_0 ((i1 : Nat) : Int)) (lp_lsb_5p1 n e width q1_0 v1_0 ((i1 : Nat) : Int) (n - 0).toNat 0 (by omega) (by omega) (by omega) (by omega) (by omega)) h32)
      rcases Bool.eq_false_or_eq_true v1_0 with h37 | h37
      · rw [cond_t h37]
        have p6 := (T_orders_cheapest_1 GS.nil GS.nil e (by with_reducible exact allb_nil) (by with_reducible exact allb_nil) (by simp only [zo, zi, zj, zf, zn, zv, GS.nil_len, GS.nil_len, GS.some_l, List.length_set, List.length_append, List.length_cons, List.length_nil] at * <;> first | with_reducible assumption | omega) (by simp only [zo, zi, zj, zf, zn, zv, GS.nil_len, GS.nil_len, GS.some_l, List.length_set, List.length_append, List.length_cons, List.length_nil] at * <;> first | with_reducible assumption | omega))
        cases h38 : decide ((zH GS.nil GS.nil e) < 0) with
        | true =>
          have g38 := of_decide_eq_true h38
          have p7 := (T_orders_Best_1 GS.nil e width (by with_reducible exact allb_nil) (by simp only [zo, zi, zj, zf, zn, zv, GS.nil_len, GS.nil_len, GS.some_l, List.length_set, List.length_append, List.length_cons, List.length_nil] at * <;> first | with_reducible assumption | omega) (by omega))
          cases h39 : (zF GS.nil e width) with
          | true =>
            exact po_turnY ((lsb_1_c_o3 n e width i1 q1_0 v1_0 i5p1) ++ [.dec true, .pure (B (zF GS.nil e width)), .dec true, .rw 29 (I ((i1 + 1 : Nat) : Int))]) (And.intro (zX (i := i1) (by omega)) (And.intro h39 (And.intro p7 (And.intro h38 (And.intro p6 (And.intro h37 (And.intro p5 (And.intro (ct_at hk1) trivial)))))))) (ih (i1 + 1) true (by omega) hN1 (by omega) (by omega) (by omega)) (by kernel_rfl)
          | false =>
            exact po_turnY ((lsb_1_c_o3 n e width i1 q1_0 v1_0 i5p1) ++ [.dec true, .pure (B (zF GS.nil e width)), .dec false, .rw 29 (I ((i1 + 1 : Nat) : Int))]) (And.intro (zX (i := i1) (by omega)) (And.intro h39 (And.intro p7 (And.intro h38 (And.intro p6 (And.intro h37 (And.intro p5 (And.intro (ct_at hk1) trivial)))))))) (ih (i1 + 1) v1_0 (by omega) hN1 (by omega) (by omega) (by omega)) (by kernel_rfl)
        | false =>
          have g38 := of_decide_eq_false h38
          exact po_turnY ((lsb_1_c_o3 n e width i1 q1_0 v1_0 i5p1) ++ [.dec false, .rw 29 (I ((i1 + 1 : Nat) : Int))]) (And.intro (zX (i := i1) (by omega)) (And.intro h38 (And.intro p6 (And.intro h37 (And.intro p5 (And.intro (ct_at hk1) trivial)))))) (ih (i1 + 1) v1_0 (by omega) hN1 (by omega) (by omega) (by omega)) (by kernel_rfl)
      · rw [cond_f h37]
        have p8 := (T_orders_Best_1 GS.nil e width (by with_reducible exact allb_nil) (by simp only [zo, zi, zj, zf, zn, zv, GS.nil_len, GS.nil_len, GS.some_l, List.length_set, List.length_append, List.length_cons, List.length_nil] at * <;> first | with_reducible assumption | omega) (by omega))
        cases h40 : (zF GS.nil e width) with
        | true =>
          exact po_turnY ((lsb_1_c_o4 n e width i1 q1_0 v1_0 i5p1) ++ [.dec true, .rw 29 (I ((i1 + 1 : Nat) : Int))]) (And.intro (zX (i := i1) (by omega)) (And.intro h40 (And.intro p8 (And.intro h37 (And.intro p5 (And.intro (ct_at hk1) trivial)))))) (ih (i1 + 1) true (by omega) hN1 (by omega) (by omega) (by omega)) (by kernel_rfl)
        | false =>
          exact po_turnY ((lsb_1_c_o4 n e width i1 q1_0 v1_0 i5p1) ++ [.dec false, .rw 29 (I ((i1 + 1 : Nat) : Int))]) (And.intro (zX (i := i1) (by omega)) (And.intro h40 (And.intro p8 (And.intro h37 (And.intro p5 (And.intro (ct_at hk1) trivial)))))) (ih (i1 + 1) v1_0 (by omega) hN1 (by omega) (by omega) (by omega)) (by kernel_rfl)
theorem ivt_lsb_1 (n : Int) (e : S_Estate) (width : Int) (q1_0 : Int) : ∀ (rest1 : Nat) (i1 : Nat) (v1_0 : Bool) (hk1 : (q1_0 - ((i1 : Nat) : Int)).toNat = rest1) (hN1 : q1_0 ≤ 9223372036854775807) (hq1 : q1_0 = w64 (1 * 2 ^ (min (n).toNat 64))) (hn : n = ((e.items.l.length : Nat) : Int)) (hle : e.items.l.length ≤ 12), iv_lsb_1 n e width q1_0 (lsb_1 n e width rest1 i1 v1_0) := by
  intro rest1
  induction rest1 with
  | zero =>
    intro i1 v1_0 hk1 hN1 hq1 hn hle
    unfold lsb_1
    exact trivial
  | succ rest1 ih =>
    intro i1 v1_0 hk1 hN1 hq1 hn hle
    have hlt1 := of_decide_eq_true (ct_at hk1)
    unfold lsb_1
    cases h32 : lsb_5p1 ((i1 : Nat) : Int) (n - 0).toNat 0 with
    | x0 i5p1 va5p1_0 =>
      try dsimp only
      have hv_h32 := ivt_lsb_5p1 n e width q1_0 v1_0 ((i1 : Nat) : Int) (n - 0).toNat 0 (by omega) (by omega) (by omega) (by omega) (by omega)
      rw [h32] at hv_h32
      obtain ⟨hv_h32_0, hv_h32_1, hv_h32_2⟩ := hv_h32
      try dsimp only [iv_lsb_5p1] at hv_h32_0
      try dsimp only [iv_lsb_5p1] at hv_h32_1
      try dsimp only [iv_lsb_5p1] at hv_h32_2
      rcases Bool.eq_false_or_eq_true v1_0 with h33 | h33
      · rw [cond_t h33]
        cases h34 : decide ((zH (GS.some va5p1_0) GS.nil e) < 0) with
        | true =>
          have g34 := of_decide_eq_true h34
          cases h35 : (zF (GS.some va5p1_0) e width) with
          | true =>
            exact ivt_lsb_1a n e width q1_0 _ (i1 + 1) va5p1_0 (by omega) hN1 (by omega) (by omega) (by omega) (by omega) (by omega) (by omega)
          | false =>
            exact ih (i1 + 1) v1_0 (by omega) hN1 (by omega) (by omega) (by omega)
        | false =>
          have g34 := of_decide_eq_false h34
          exact ih (i1 + 1) v1_0 (by omega) hN1 (by omega) (by omega) (by omega)
      · rw [cond_f h33]
        cases h36 : (zF (GS.some va5p1_0) e width) with
        | true =>
          exact ivt_lsb_1a n e width q1_0 _ (i1 + 1) va5p1_0 (by omega) hN1 (by omega) (by omega) (by omega) (by omega) (by omega) (by omega)
        | false =>
          exact ih (i1 + 1) v1_0 (by omega) hN1 (by omega) (by omega) (by omega)
    | x1 i5p1 =>
      try dsimp only
      rcases Bool.eq_false_or_eq_true v1_0 with h37 | h37
      · rw [cond_t h37]
        cases h38 : decide ((zH GS.nil GS.nil e) < 0) with
        | true =>
          have g38 := of_decide_eq_true h38
          cases h39 : (zF GS.nil e width) with
          | true =>
            exact ih (i1 + 1) true (by omega) hN1 (by omega) (by omega) (by omega)
          | false =>
            exact ih (i1 + 1) v1_0 (by omega) hN1 (by omega) (by omega) (by omega)
        | false =>
          have g38 := of_decide_eq_false h38
          exact ih (i1 + 1) v1_0 (by omega) hN1 (by omega) (by omega) (by omega)
      · rw [cond_f h37]
        cases h40 : (zF GS.nil e width) with
        | true =>
          exact ih (i1 + 1) true (by omega) hN1 (by omega) (by omega) (by omega)
        | false =>
          exact ih (i1 + 1) v1_0 (by omega) hN1 (by omega) (by omega) (by omega)

def leastB (n : Int) (e : S_Estate) (width : Int) : (GS Int) × Bool :=
  match lsb_1 n e width (w64 (1 * 2 ^ (min (n).toNat 64)) - 0).toNat 0 false with
  | .x0 i1 va1_0 =>
    (GS.some va1_0, true)
  | .x1 i1 v1_0 =>
    bif v1_0 then
      (GS.nil, true)
    else
      (GS.nil, false)

def leastB_o1 (e : S_Estate) (width : Int) (v1_0 : Bool) : List Ora := [.iter [(0, ⟨[.fn (.func 60) [] [.ptr (.agg [.sl e.items.nl (e.items.l.map S_Item.D) (zsl e.items.nl 4) none, I e.whole.lo, I e.whole.hi]), .ptr (I width)]], 1, false⟩), (1, ⟨[.fn (.func 90) [] [.ptr (.agg [.sl e.items.nl (e.items.l.map S_Item.D) (zsl e.items.nl 4) none, I e.whole.lo, I e.whole.hi])]], 1, false⟩), (2, ⟨[.sl true [] 0 none], 1, false⟩), (3, ⟨[B v1_0], 1, false⟩)] 5 none]

def sd20234 (n : Int) (e : S_Estate) (width : Int) (i1 : Nat) (va1_0 : List Int) : St := ⟨30, [(9, B false), (0, .yld 4), (1, .ptr (I n)), (7, I (w64 (1 * 2 ^ (min (n).toNat 64)))), (8, I ((i1 : Nat) : Int))], [(0, ⟨[.fn (.func 60) [] [.ptr (.agg [.sl e.items.nl (e.items.l.map S_Item.D) (zsl e.items.nl 4) none, I e.whole.lo, I e.whole.hi]), .ptr (I width)]], 1, false⟩), (1, ⟨[.fn (.func 90) [] [.ptr (.agg [.sl e.items.nl (e.items.l.map S_Item.D) (zsl e.items.nl 4) none, I e.whole.lo, I e.whole.hi])]], 1, false⟩), (2, ⟨[.lsl 5 0 va1_0.length 1 none], 1, false⟩), (3, ⟨[B true], 1, false⟩), (5, ⟨va1_0.map I, 1, false⟩)], 6, 5⟩

def sd20235 (n : Int) (e : S_Estate) (width : Int) (i1 : Nat) (v1_0 : Bool) : St := ⟨30, [(9, B false), (0, .yld 4), (1, .ptr (I n)), (7, I (w64 (1 * 2 ^ (min (n).toNat 64)))), (8, I ((i1 : Nat) : Int))], [(0, ⟨[.fn (.func 60) [] [.ptr (.agg [.sl e.items.nl (e.items.l.map S_Item.D) (zsl e.items.nl 4) none, I e.whole.lo, I e.whole.hi]), .ptr (I width)]], 1, false⟩), (1, ⟨[.fn (.func 90) [] [.ptr (.agg [.sl e.items.nl (e.items.l.map S_Item.D) (zsl e.items.nl 4) none, I e.whole.lo, I e.whole.hi])]], 1, false⟩), (2, ⟨[.sl true [] 0 none], 1, false⟩), (3, ⟨[B v1_0], 1, false⟩)], 5, 5⟩

theorem T_leastB (n : Int) (e : S_Estate) (width : Int) (hn : n = ((e.items.l.length : Nat) : Int)) (hle : e.items.l.length ≤ 12) : (lim cfg).pure 89 [.fn (.func 96) [] [.ptr (I n)], .fn (.func 60) [] [.ptr (S_Estate.D e), .ptr (I width)], .fn (.func 90) [] [.ptr (S_Estate.D e)]] = some (.tup [GS.D I 1 ((leastB n e width).1), B ((leastB n e width).2)]) := by
  unfold leastB
  cases h41 : lsb_1 n e width (w64 (1 * 2 ^ (min (n).toNat 64)) - 0).toNat 0 false with
  | x0 i1 va1_0 =>
    try dsimp only
    have hv_h41 := ivt_lsb_1 n e width (w64 (1 * 2 ^ (min (n).toNat 64))) (w64 (1 * 2 ^ (min (n).toNat 64)) - 0).toNat 0 false (by omega) (by simp only [zr] at * <;> omega) (by omega) (by omega) (by omega)
    rw [h41] at hv_h41
    obtain ⟨hv_h41_0, hv_h41_1⟩ := hv_h41
    try dsimp only [iv_lsb_1] at hv_h41_0
    try dsimp only [iv_lsb_1] at hv_h41_1
    exact po_pureS [.iter [(0, ⟨[.fn (.func 60) [] [.ptr (.agg [.sl e.items.nl (e.items.l.map S_Item.D) (zsl e.items.nl 4) none, I e.whole.lo, I e.whole.hi]), .ptr (I width)]], 1, false⟩), (1, ⟨[.fn (.func 90) [] [.ptr (.agg [.sl e.items.nl (e.items.l.map S_Item.D) (zsl e.items.nl 4) none, I e.whole.lo, I e.whole.hi])]], 1, false⟩), (2, ⟨[.lsl 5 0 va1_0.length 1 none], 1, false⟩), (3, ⟨[B true], 1, false⟩), (5, ⟨va1_0.map I, 1, false⟩)] 6 none, .dec true] [(5, .sl false (va1_0.map I) 1 none, [5])] (And.intro (snap_row (gO := zD [(0, ⟨[.fn (.func 60) [] [.ptr (.agg [.sl e.items.nl (e.items.l.map S_Item.D) (zsl e.items.nl 4) none, I e.whole.lo, I e.whole.hi]), .ptr (I width)]], 1, false⟩), (1, ⟨[.fn (.func 90) [] [.ptr (.agg [.sl e.items.nl (e.items.l.map S_Item.D) (zsl e.items.nl 4) none, I e.whole.lo, I e.whole.hi])]], 1, false⟩), (2, ⟨[.lsl 5 0 va1_0.length 1 none], 1, false⟩), (3, ⟨[B true], 1, false⟩), (5, ⟨va1_0.map I, 1, false⟩)]) (o := 5) (len := va1_0.length) (cap := none) (fz := false) zl va1_0 (by kernel_rfl) (by omega)) (And.intro (Eq.refl true) (And.intro (show (lim cfg).iter (rg20205 n e width) 96 [.yld 4, .ptr (I n)] [(0, ⟨[.fn (.func 60) [] [.ptr (.agg [.sl e.items.nl (e.items.l.map S_Item.D) (zsl e.items.nl 4) none, I e.whole.lo, I e.whole.hi]), .ptr (I width)]], 1, false⟩), (1, ⟨[.fn (.func 90) [] [.ptr (.agg [.sl e.items.nl (e.items.l.map S_Item.D) (zsl e.items.nl 4) none, I e.whole.lo, I e.whole.hi])]], 1, false⟩), (2, ⟨[.sl true [] 0 none], 1, false⟩), (3, ⟨[B false], 1, false⟩)] 5 = some ([(0, ⟨[.fn (.func 60) [] [.ptr (.agg [.sl e.items.nl (e.items.l.map S_Item.D) (zsl e.items.nl 4) none, I e.whole.lo, I e.whole.hi]), .ptr (I width)]], 1, false⟩), (1, ⟨[.fn (.func 90) [] [.ptr (.agg [.sl e.items.nl (e.items.l.map S_Item.D) (zsl e.items.nl 4) none, I e.whole.lo, I e.whole.hi])]], 1, false⟩), (2, ⟨[.lsl 5 0 va1_0.length 1 none], 1, false⟩), (3, ⟨[B true], 1, false⟩), (5, ⟨va1_0.map I, 1, false⟩)], 6, none) from po_iter [.op (some 7) ⟨I (w64 (1 * 2 ^ (min (n).toNat 64))), [], [], 5⟩, .loopY (.exit 0) (sd20234 n e width i1 va1_0) none] (And.intro (po_lrY (q := lr_lsb_1 n e width (w64 (1 * 2 ^ (min (n).toNat 64)))) (lp_lsb_1 n e width (w64 (1 * 2 ^ (min (n).toNat 64))) (w64 (1 * 2 ^ (min (n).toNat 64)) - 0).toNat 0 false (by omega) (by simp only [zr] at * <;> omega) (by omega) (by omega) (by omega)) h41) (And.intro (shl_op (C := cfg) (t := 3) (cst := true) (nxt := 5) (a := 1) (b := n) (by omega)) trivial)) (by kernel_rfl)) trivial))) (by kernel_rfl)
  | x1 i1 v1_0 =>
    try dsimp only
    have p1 := (show (lim cfg).iter (rg20205 n e width) 96 [.yld 4, .ptr (I n)] [(0, ⟨[.fn (.func 60) [] [.ptr (.agg [.sl e.items.nl (e.items.l.map S_Item.D) (zsl e.items.nl 4) none, I e.whole.lo, I e.whole.hi]), .ptr (I width)]], 1, false⟩), (1, ⟨[.fn (.func 90) [] [.ptr (.agg [.sl e.items.nl (e.items.l.map S_Item.D) (zsl e.items.nl 4) none, I e.whole.lo, I e.whole.hi])]], 1, false⟩), (2, ⟨[.sl true [] 0 none], 1, false⟩), (3, ⟨[B false], 1, false⟩)] 5 = some ([(0, ⟨[.fn (.func 60) [] [.ptr (.agg [.sl e.items.nl (e.items.l.map S_Item.D) (zsl e.items.nl 4) none, I e.whole.lo, I e.whole.hi]), .ptr (I width)]], 1, false⟩), (1, ⟨[.fn (.func 90) [] [.ptr (.agg [.sl e.items.nl (e.items.l.map S_Item.D) (zsl e.items.nl 4) none, I e.whole.lo, I e.whole.hi])]], 1, false⟩), (2, ⟨[.sl true [] 0 none], 1, false⟩), (3, ⟨[B v1_0], 1, false⟩)], 5, none) from po_iter [.op (some 7) ⟨I (w64 (1 * 2 ^ (min (n).toNat 64))), [], [], 5⟩, .loopY (.exit 0) (sd20235 n e width i1 v1_0) none] (And.intro (po_lrY (q := lr_lsb_1 n e width (w64 (1 * 2 ^ (min (n).toNat 64)))) (lp_lsb_1 n e width (w64 (1 * 2 ^ (min (n).toNat 64))) (w64 (1 * 2 ^ (min (n).toNat 64)) - 0).toNat 0 false (by omega) (by simp only [zr] at * <;> omega) (by omega) (by omega) (by omega)) h41) (And.intro (shl_op (C := cfg) (t := 3) (cst := true) (nxt := 5) (a := 1) (b := n) (by omega)) trivial)) (by kernel_rfl))
    rcases Bool.eq_false_or_eq_true v1_0 with h42 | h42
    · rw [cond_t h42]
      exact zk ((leastB_o1 e width v1_0) ++ [.dec true]) (And.intro h42 (And.intro p1 trivial)) (by kernel_rfl)
    · rw [cond_f h42]
      exact zk ((leastB_o1 e width v1_0) ++ [.dec false]) (And.intro h42 (And.intro p1 trivial)) (by kernel_rfl)

def yf (e : S_Estate) (width : Int) : (GS Int) × Bool :=
  bif ((leastB ((e.items.l.length : Nat) : Int) e width).1).nl then
    bif ((leastB ((e.items.l.length : Nat) : Int) e width).2) then
      (((leastB ((e.items.l.length : Nat) : Int) e width).1), true)
    else
      (((leastB ((e.items.l.length : Nat) : Int) e width).1), false)
  else
    bif ((leastB ((e.items.l.length : Nat) : Int) e width).2) then
      (((leastB ((e.items.l.length : Nat) : Int) e width).1), true)
    else
      (((leastB ((e.items.l.length : Nat) : Int) e width).1), false)

def cheapestB_o1 (e : S_Estate) (width : Int) : List Ora := [.rw 8 (I ((e.items.l.length : Nat) : Int)), .pure (.fn (.func 96) [] [.ptr (I ((e.items.l.length : Nat) : Int))]), .pureS (.tup [.sl (((leastB ((e.items.l.length : Nat) : Int) e width).1).nl) ((((leastB ((e.items.l.length : Nat) : Int) e width).1).l).map I) (zsl (((leastB ((e.items.l.length : Nat) : Int) e width).1).nl) 1) none, B ((leastB ((e.items.l.length : Nat) : Int) e width).2)]) true []]

def cheapestB_o2 (e : S_Estate) (width : Int) : List Ora := [.rw 8 (I ((e.items.l.length : Nat) : Int)), .pure (.fn (.func 96) [] [.ptr (I ((e.items.l.length : Nat) : Int))]), .pureS (.tup [.sl (((leastB ((e.items.l.length : Nat) : Int) e width).1).nl) ((((leastB ((e.items.l.length : Nat) : Int) e width).1).l).map I) (zsl (((leastB ((e.items.l.length : Nat) : Int) e width).1).nl) 1) none, B ((leastB ((e.items.l.length : Nat) : Int) e width).2)]) false []]

theorem T_cheapestB (e : S_Estate) (width : Int) (hle : e.items.l.length ≤ 12) : (lim cfg).pure 59 [S_Estate.D e, .agg [.fn (.func 60) [] [.ptr (S_Estate.D e), .ptr (I width)]]] = some (.tup [GS.D I 1 ((yf e width).1), B ((yf e width).2)]) := by
  unfold yf
  have p1 := (T_lists ((e.items.l.length : Nat) : Int))
  cases h1 : ((leastB ((e.items.l.length : Nat) : Int) e width).1).nl with
  | true =>
    have p2 := (And.intro (show flat fuelD (.tup [.sl (((leastB ((e.items.l.length : Nat) : Int) e width).1).nl) ((((leastB ((e.items.l.length : Nat) : Int) e width).1).l).map I) (zsl (((leastB ((e.items.l.length : Nat) : Int) e width).1).nl) 1) none, B ((leastB ((e.items.l.length : Nat) : Int) e width).2)]) = true from (by rw [h1] <;> kernel_rfl)) (And.intro (trivial) (T_leastB ((e.items.l.length : Nat) : Int) e width (by omega) (by omega))))
    cases h2 : ((leastB ((e.items.l.length : Nat) : Int) e width).2) with
    | true =>
      exact zk ((cheapestB_o1 e width) ++ [.dec true]) (And.intro h2 (And.intro p2 (And.intro p1 (And.intro (zu S_Item.D e.items) trivial)))) (by kernel_rfl)
    | false =>
      exact zk ((cheapestB_o1 e width) ++ [.dec false]) (And.intro h2 (And.intro p2 (And.intro p1 (And.intro (zu S_Item.D e.items) trivial)))) (by kernel_rfl)
  | false =>
    have p3 := (And.intro (show flat fuelD (.tup [.sl (((leastB ((e.items.l.length : Nat) : Int) e width).1).nl) ((((leastB ((e.items.l.length : Nat) : Int) e width).1).l).map I) (zsl (((leastB ((e.items.l.length : Nat) : Int) e width).1).nl) 1) none, B ((leastB ((e.items.l.length : Nat) : Int) e width).2)]) = false from (by rw [h1] <;> kernel_rfl)) (And.intro (trivial) (T_leastB ((e.items.l.length : Nat) : Int) e width (by omega) (by omega))))
    cases h3 : ((leastB ((e.items.l.length : Nat) : Int) e width).2) with
    | true =>
      exact zk ((cheapestB_o2 e width) ++ [.dec true]) (And.intro h3 (And.intro p3 (And.intro p1 (And.intro (zu S_Item.D e.items) trivial)))) (by kernel_rfl)
    | false =>
      exact zk ((cheapestB_o2 e width) ++ [.dec false]) (And.intro h3 (And.intro p3 (And.intro p1 (And.intro (zu S_Item.D e.items) trivial)))) (by kernel_rfl)

def zc (e : S_Estate) (width : Int) : (GS Int) × Bool × Int :=
  bif ((zy e) != 0) then
    (GS.nil, false, (zy e))
  else
    bif decide (width < 0) then
      (GS.nil, false, 1)
    else
      bif ((yf e width).1).nl then
        bif ((yf e width).2) then
          (((yf e width).1), true, 0)
        else
          (((yf e width).1), false, 0)
      else
        bif ((yf e width).2) then
          (((yf e width).1), true, 0)
        else
          (((yf e width).1), false, 0)

def orders_Best_o1 (e : S_Estate) (width : Int) : List Ora := [.pure (I (zy e)), .dec false, .dec false, .pureS (.tup [.sl (((yf e width).1).nl) ((((yf e width).1).l).map I) (zsl (((yf e width).1).nl) 1) none, B ((yf e width).2)]) true []]

def orders_Best_o2 (e : S_Estate) (width : Int) : List Ora := [.pure (I (zy e)), .dec false, .dec false, .pureS (.tup [.sl (((yf e width).1).nl) ((((yf e width).1).l).map I) (zsl (((yf e width).1).nl) 1) none, B ((yf e width).2)]) false []]

theorem T_orders_Best (e : S_Estate) (width : Int) : (lim cfg).pure 21 [S_Estate.D e, I width] = some (.tup [GS.D I 1 ((zc e width).1), B ((zc e width).2.1), I ((zc e width).2.2)]) := by
  unfold zc
  cases h1 : ((zy e) != 0) with
  | true =>
    have g1 := bne_true h1
    exact zk [.pure (I (zy e)), .dec true] (And.intro h1 (And.intro (yb e) trivial)) (by kernel_rfl)
  | false =>
    have g1 := check_len (bne_false h1)
    cases h2 : decide (width < 0) with
    | true =>
      have g2 := of_decide_eq_true h2
      exact zk [.pure (I (zy e)), .dec false, .dec true] (And.intro h2 (And.intro h1 (And.intro (yb e) trivial))) (by kernel_rfl)
    | false =>
      have g2 := of_decide_eq_false h2
      cases h3 : ((yf e width).1).nl with
      | true =>
        have p1 := (And.intro (show flat fuelD (.tup [.sl (((yf e width).1).nl) ((((yf e width).1).l).map I) (zsl (((yf e width).1).nl) 1) none, B ((yf e width).2)]) = true from (by rw [h3] <;> kernel_rfl)) (And.intro (trivial) (T_cheapestB e width (by omega))))
        cases h4 : ((yf e width).2) with
        | true =>
          exact zk ((orders_Best_o1 e width) ++ [.dec true]) (And.intro h4 (And.intro p1 (And.intro h2 (And.intro h1 (And.intro (yb e) trivial))))) (by kernel_rfl)
        | false =>
          exact zk ((orders_Best_o1 e width) ++ [.dec false]) (And.intro h4 (And.intro p1 (And.intro h2 (And.intro h1 (And.intro (yb e) trivial))))) (by kernel_rfl)
      | false =>
        have p2 := (And.intro (show flat fuelD (.tup [.sl (((yf e width).1).nl) ((((yf e width).1).l).map I) (zsl (((yf e width).1).nl) 1) none, B ((yf e width).2)]) = false from (by rw [h3] <;> kernel_rfl)) (And.intro (trivial) (T_cheapestB e width (by omega))))
        cases h5 : ((yf e width).2) with
        | true =>
          exact zk ((orders_Best_o2 e width) ++ [.dec true]) (And.intro h5 (And.intro p2 (And.intro h2 (And.intro h1 (And.intro (yb e) trivial))))) (by kernel_rfl)
        | false =>
          exact zk ((orders_Best_o2 e width) ++ [.dec false]) (And.intro h5 (And.intro p2 (And.intro h2 (And.intro h1 (And.intro (yb e) trivial))))) (by kernel_rfl)
end Go.VS

namespace Go.VS
open Go Go.Proofs
set_option maxHeartbeats 0
set_option linter.unusedSimpArgs false
set_option linter.unusedVariables false
def enough (p : Arr2_Int) (need : Int) : Bool :=
  bif decide (p.x1 ≥ need) then
    true
  else
    false

theorem T_enough (p : Arr2_Int) (need : Int) : (lim cfg).pure 25 [Arr2_Int.D p, .ptr (I need)] = some (B (enough p need)) := by
  unfold enough
  cases h1 : decide (p.x1 ≥ need) with
  | true =>
    have g1 := of_decide_eq_true h1
    exact zk [.dec true] (And.intro h1 trivial) (by kernel_rfl)
  | false =>
    have g1 := of_decide_eq_false h1
    exact zk [.dec false] (And.intro h1 trivial) (by kernel_rfl)

noncomputable def lp24_2 : Code := subC [1, 0, 1, 0, 0] (bodyC Try.f24)

inductive LR_idxEn_2 where
  | x0
  | x1 (i2 : Nat) (x2 : Arr2_Int)
instance : Inhabited LR_idxEn_2 := ⟨.x0⟩
def idxEn_2 (need : Int) : List Arr2_Int → Nat → LR_idxEn_2
  | [], i2 => .x0
  | x2 :: rest2, i2 =>
    bif (enough x2 need) then
      .x1 i2 x2
    else
      idxEn_2 need rest2 (i2 + 1)
def lr_idxEn_2 (s : GS Arr2_Int) (need : Int) : LR_idxEn_2 → Exit × St
  | .x0 => ((.exit 0), ⟨19, [(9, B false), (0, .sl s.nl (s.l.map Arr2_Int.D) (zsl s.nl 2) none), (1, .fn (.func 25) [] [.ptr (I need)]), (7, I ((s.l.length : Nat) : Int)), (8, I ((s.l.length : Nat) : Int))], [], 0, 0⟩)
  | .x1 i2 x2 => (.ret, ⟨19, [(4, I ((i2 : Nat) : Int)), (17, I ((i2 : Nat) : Int)), (16, B true), (15, .agg [I x2.x0, I x2.x1]), (14, .ptr (.agg [I x2.x0, I x2.x1])), (13, I ((i2 : Nat) : Int)), (12, .sl s.nl (s.l.map Arr2_Int.D) (zsl s.nl 2) none), (11, .fn (.func 25) [] [.ptr (I need)]), (5, I ((i2 : Nat) : Int)), (10, I ((i2 : Nat) : Int)), (9, B true), (0, .sl s.nl (s.l.map Arr2_Int.D) (zsl s.nl 2) none), (1, .fn (.func 25) [] [.ptr (I need)]), (7, I ((s.l.length : Nat) : Int)), (8, I ((i2 : Nat) : Int))], [], 0, 0⟩)
theorem lp_idxEn_2 (s : GS Arr2_Int) (need : Int) : ∀ (rest2 : List Arr2_Int) (i2 : Nat) (hd2 : s.l.drop i2 = rest2) (hi2 : i2 ≤ s.l.length) (hL2 : s.l.length ≤ 9223372036854775807), (lim cfg).loop 24 lp24_2 ⟨19, [(0, .sl s.nl (s.l.map Arr2_Int.D) (zsl s.nl 2) none), (1, .fn (.func 25) [] [.ptr (I need)]), (7, I ((s.l.length : Nat) : Int)), (8, I ((i2 : Nat) : Int))], [], 0, 0⟩ = some (lr_idxEn_2 s need (idxEn_2 need rest2 i2)) := by
  intro rest2
  induction rest2 with
  | nil =>
    intro i2 hd2 hi2 hL2
    unfold idxEn_2
    obtain rfl : i2 = s.l.length := nil_eq hd2 hi2
    exact zS [.dec false] (And.intro (lt_no hd2) trivial) (by kernel_rfl)
  | cons x2 rest2 ih =>
    intro i2 hd2 hi2 hL2
    have hlt2 := zt hd2
    unfold idxEn_2
    cases h2 : (enough x2 need) with
    | true =>
      exact zS [.dec true, .el (.agg [I x2.x0, I x2.x1]), .pure (B (enough x2 need)), .dec true] (And.intro h2 (And.intro (T_enough x2 need) (And.intro (el_at (s := s) (f := Arr2_Int.D) (k := 2) hd2) (And.intro (lt_at hd2) trivial)))) (by kernel_rfl)
    | false =>
      exact po_turn [.dec true, .el (.agg [I x2.x0, I x2.x1]), .pure (B (enough x2 need)), .dec false, .rw 18 (I ((i2 + 1 : Nat) : Int))] (And.intro (zX (i := i2) (by have := zt hd2; omega)) (And.intro h2 (And.intro (T_enough x2 need) (And.intro (el_at (s := s) (f := Arr2_Int.D) (k := 2) hd2) (And.intro (lt_at hd2) trivial))))) (ih (i2 + 1) (zA hd2) (zt hd2) (by omega)) (by kernel_rfl)

def idxEn (s : GS Arr2_Int) (need : Int) : Int :=
  match idxEn_2 need s.l 0 with
  | .x0 =>
    (-1)
  | .x1 i2 x2 =>
    ((i2 : Nat) : Int)

def sd20236 (s : GS Arr2_Int) (need : Int) : St := ⟨19, [(9, B false), (0, .sl s.nl (s.l.map Arr2_Int.D) (zsl s.nl 2) none), (1, .fn (.func 25) [] [.ptr (I need)]), (7, I ((s.l.length : Nat) : Int)), (8, I ((s.l.length : Nat) : Int))], [], 0, 0⟩

def sd20237 (s : GS Arr2_Int) (need : Int) (i2 : Nat) (x2 : Arr2_Int) : St := ⟨19, [(4, I ((i2 : Nat) : Int)), (17, I ((i2 : Nat) : Int)), (16, B true), (15, .agg [I x2.x0, I x2.x1]), (14, .ptr (.agg [I x2.x0, I x2.x1])), (13, I ((i2 : Nat) : Int)), (12, .sl s.nl (s.l.map Arr2_Int.D) (zsl s.nl 2) none), (11, .fn (.func 25) [] [.ptr (I need)]), (5, I ((i2 : Nat) : Int)), (10, I ((i2 : Nat) : Int)), (9, B true), (0, .sl s.nl (s.l.map Arr2_Int.D) (zsl s.nl 2) none), (1, .fn (.func 25) [] [.ptr (I need)]), (7, I ((s.l.length : Nat) : Int)), (8, I ((i2 : Nat) : Int))], [], 0, 0⟩

theorem T_idxEn (s : GS Arr2_Int) (need : Int) (hL_s : s.l.length ≤ 9223372036854775807) : (lim cfg).pure 24 [GS.D Arr2_Int.D 2 s, .fn (.func 25) [] [.ptr (I need)]] = some (I (idxEn s need)) := by
  unfold idxEn
  cases h3 : idxEn_2 need s.l 0 with
  | x0 =>
    try dsimp only
    exact zk [.rw 7 (I ((s.l.length : Nat) : Int)), .loop (.exit 0) (sd20236 s need)] (And.intro (po_lr (q := lr_idxEn_2 s need) (lp_idxEn_2 s need s.l 0 (List.drop_zero) (Nat.zero_le _) (by omega)) h3) (And.intro (zu Arr2_Int.D s) trivial)) (by kernel_rfl)
  | x1 i2 x2 =>
    try dsimp only
    exact zk [.rw 7 (I ((s.l.length : Nat) : Int)), .loop .ret (sd20237 s need i2 x2)] (And.intro (po_lr (q := lr_idxEn_2 s need) (lp_idxEn_2 s need s.l 0 (List.drop_zero) (Nat.zero_le _) (by omega)) h3) (And.intro (zu Arr2_Int.D s) trivial)) (by kernel_rfl)
end Go.VS

/-
  Orders: sorting few numbers; the widest span that is left. (A text of this claim's own; nothing of it is trusted.)
-/
namespace Go.VS
/-! ### sorting -/
theorem less_eq (a b : Int) : cmp_Less a b = decide (a < b) := by
  unfold cmp_Less cmp_isNaN
  simp only [bne_self_eq_false, cond_false]
  cases decide (a < b) <;> rfl
def insr (x : Int) : List Int → List Int
  | [] => [x]
  | y :: l => if x < y then y :: insr x l else x :: y :: l
theorem insr_perm (x : Int) : ∀ l, List.Perm (insr x l) (x :: l)
  | [] => List.Perm.refl _
  | y :: l => by
    unfold insr
    split
    · exact ((insr_perm x l).cons y).trans (List.Perm.swap x y l)
    · exact List.Perm.refl _
theorem insr_sorted (x : Int) : ∀ {l : List Int}, l.Pairwise (· ≥ ·) → (insr x l).Pairwise (· ≥ ·)
  | [], _ => by simp [insr]
  | y :: l, h => by
    unfold insr
    have h' := List.pairwise_cons.1 h
    split
    · refine List.pairwise_cons.2 ⟨fun z hz => ?_, insr_sorted x h'.2⟩
      rcases List.mem_cons.1 ((insr_perm x l).mem_iff.1 hz) with rfl | hz
      · omega
      · exact h'.1 z hz
    · refine List.pairwise_cons.2 ⟨fun z hz => ?_, h⟩
      rcases List.mem_cons.1 hz with rfl | hz
      · omega
      · have := h'.1 z hz; omega
theorem insr_len (x : Int) (l : List Int) : (insr x l).length = l.length + 1 := by rw [(insr_perm x l).length_eq, List.length_cons]
theorem ins4 : ∀ (R : List Int) (x : Int) (B : List Int) (n : Nat), R.length < n → R.length ≤ 1000 →
    ∃ j, isort4_4 n (R.length : Int) (R.reverse ++ x :: B) = .x0 j ((insr x R).reverse ++ B) ∨ isort4_4 n (R.length : Int) (R.reverse ++ x :: B) = .x1 j ((insr x R).reverse ++ B)
  | _, _, _, 0, h, _ => by omega
  | [], x, B, n + 1, _, _ => ⟨0, .inr (by simp [isort4_4, insr])⟩
  | y :: R, x, B, n + 1, h, hb => by
    simp only [List.length_cons] at h hb
    have e0 : decide ((((y :: R).length : Nat) : Int) > 0) = true := decide_eq_true (by simp only [List.length_cons]; omega)
    have e1 : w64 ((((y :: R).length : Nat) : Int) - 1) = (R.length : Int) := by simp only [List.length_cons]; rw [yi (by omega) (by omega)]; omega
    have e2 : ((y :: R).reverse ++ x :: B) = R.reverse ++ y :: x :: B := by simp
    have g1 : (R.reverse ++ y :: x :: B).getD (((y :: R).length : Nat) : Int).toNat default = x := by
      simp only [List.length_cons, Int.toNat_natCast]
      rw [List.getD_eq_getElem?_getD, List.getElem?_append_right (by simp)]
      simp
    have g2 : (R.reverse ++ y :: x :: B).getD (R.length : Int).toNat default = y := by
      simp only [Int.toNat_natCast]
      rw [List.getD_eq_getElem?_getD, List.getElem?_append_right (by simp)]
      simp
    have g3 : ((R.reverse ++ y :: x :: B).set (((y :: R).length : Nat) : Int).toNat y).set (R.length : Int).toNat x = R.reverse ++ x :: y :: B := by
      simp only [List.length_cons, Int.toNat_natCast]
      rw [List.set_append_right _ _ (by simp)]
      simp only [List.length_reverse, Nat.add_sub_cancel_left]
      rw [List.set_append_right _ _ (by simp)]
      simp
    unfold isort4_4
    rw [e0, e1, e2, g1, g2, g3, less_eq]
    simp only [cond_true]
    by_cases hxy : x < y
    · rw [decide_eq_true hxy]
      simp only [cond_true]
      obtain ⟨j, hj⟩ := ins4 R x (y :: B) n (by omega) (by omega)
      refine ⟨j, ?_⟩
      have e3 : (insr x (y :: R)).reverse ++ B = (insr x R).reverse ++ y :: B := by
        rw [insr, if_pos hxy]; simp
      rw [e3]
      exact hj
    · rw [decide_eq_false hxy]
      simp only [cond_false]
      refine ⟨(((y :: R).length : Nat) : Int), .inl ?_⟩
      have e3 : (insr x (y :: R)).reverse ++ B = R.reverse ++ y :: x :: B := by
        rw [insr, if_neg hxy]; simp
      rw [e3]
theorem ins1 : ∀ (B R : List Int) (n : Nat), n = B.length → R.length + B.length ≤ 1000 → ∃ i, isort4_1 n R.length (R.reverse ++ B) = .x0 i (B.foldl (fun S x => insr x S) R).reverse
  | [], R, n, h, _ => by subst h; exact ⟨R.length, by simp [isort4_1]⟩
  | x :: B, R, n, h, hb => by
    subst h
    simp only [List.length_cons] at hb
    simp only [List.length_cons, List.foldl_cons]
    unfold isort4_1
    obtain ⟨i, hi⟩ := ins1 B (insr x R) B.length rfl (by rw [insr_len]; omega)
    rw [insr_len] at hi
    obtain ⟨j, hj⟩ := ins4 R x B (R.length + 1) (by omega) (by omega)
    refine ⟨i, ?_⟩
    rcases hj with hj | hj <;> rw [hj] <;> exact hi
def srt (l : List Int) : List Int := (l.foldl (fun S x => insr x S) []).reverse
theorem isort_eq {l : List Int} (h : l.length ≤ 1000) : isort4 l = srt l := by
  unfold isort4 srt
  cases l with
  | nil => rfl
  | cons x l =>
    simp only [List.length_cons] at h
    obtain ⟨i, hi⟩ := ins1 l [x] l.length rfl (by simp; omega)
    have e : (((((x :: l).length : Nat) : Int)) - 1).toNat = l.length := by simp
    rw [e]
    have e2 : isort4_1 l.length 1 (x :: l) = .x0 i (l.foldl (fun S x => insr x S) [x]).reverse := hi
    rw [e2]
    rfl
theorem fold_perm : ∀ (l S : List Int), List.Perm (l.foldl (fun S x => insr x S) S) (l ++ S)
  | [], S => List.Perm.refl _
  | x :: l, S => (fold_perm l (insr x S)).trans (((insr_perm x S).append_left l).trans (List.perm_middle))
theorem fold_sorted : ∀ (l : List Int) {S : List Int}, S.Pairwise (· ≥ ·) → (l.foldl (fun S x => insr x S) S).Pairwise (· ≥ ·)
  | [], _, h => h
  | x :: l, _, h => fold_sorted l (insr_sorted x h)
theorem srt_perm (l : List Int) : List.Perm (srt l) l := by
  have := fold_perm l []
  rw [List.append_nil] at this
  exact (List.reverse_perm _).trans this
theorem srt_sorted (l : List Int) : (srt l).Pairwise (· ≤ ·) := by
  unfold srt
  rw [List.pairwise_reverse]
  exact fold_sorted l List.Pairwise.nil
/-! ### the widest -/
/-- Where the first greatest one is. -/
theorem wide6 {w : S_window} {f : Int → Int} : ∀ (l : List Int) (b p m s0 : Int), (∀ s ∈ l, w64 ((zh w s).hi - (zh w s).lo) = f s) → l.Pairwise (· ≤ ·) → b < m → (∀ s ∈ l, f s ≤ m) → s0 ∈ l → f s0 = m → (∀ s ∈ l, f s = m → s0 ≤ s) →
    y8 w l b p = .x0 m s0
  | [], _, _, _, _, _, _, _, _, h, _, _ => by cases h
  | x :: l, b, p, m, s0, hf, hs, hb, hm, h0, h1, h2 => by
    have hs' := List.pairwise_cons.1 hs
    have hx := hm x List.mem_cons_self
    unfold y8
    rw [hf x List.mem_cons_self]
    by_cases he : f x = m
    · have h3 := h2 x List.mem_cons_self he
      have h4 : s0 = x := by
        rcases List.mem_cons.1 h0 with h | h
        · exact h
        · have := hs'.1 s0 h; omega
      subst h4
      rw [decide_eq_true (by omega : f s0 > b)]
      simp only [cond_true]
      rw [h1]
      have key : ∀ (l : List Int), (∀ s ∈ l, w64 ((zh w s).hi - (zh w s).lo) = f s) → (∀ s ∈ l, f s ≤ m) → y8 w l m s0 = .x0 m s0 := by
        intro l
        induction l with
        | nil => intro _ _; rfl
        | cons y l ih =>
          intro hf hm
          unfold y8
          rw [hf y List.mem_cons_self, decide_eq_false (by have := hm y List.mem_cons_self; omega : ¬ f y > m)]
          exact ih (fun s hs => hf s (List.mem_cons_of_mem _ hs)) (fun s hs => hm s (List.mem_cons_of_mem _ hs))
      exact key l (fun s hs => hf s (List.mem_cons_of_mem _ hs)) (fun s hs => hm s (List.mem_cons_of_mem _ hs))
    · have h4 : s0 ∈ l := by
        rcases List.mem_cons.1 h0 with h | h
        · subst h; exact absurd h1 he
        · exact h
      cases decide (f x > b) with
      | true => exact wide6 l _ _ m s0 (fun s hs => hf s (List.mem_cons_of_mem _ hs)) hs'.2 (by omega) (fun s hs => hm s (List.mem_cons_of_mem _ hs)) h4 h1 (fun s hs => h2 s (List.mem_cons_of_mem _ hs))
      | false => exact wide6 l _ _ m s0 (fun s hs => hf s (List.mem_cons_of_mem _ hs)) hs'.2 hb (fun s hs => hm s (List.mem_cons_of_mem _ hs)) h4 h1 (fun s hs => h2 s (List.mem_cons_of_mem _ hs))
/-- A window's numbers are not out of bounds. -/
structure Wk (w : S_window) : Prop where
  l0 : 0 ≤ w.at_.lo
  l1 : w.at_.lo ≤ w.at_.hi
  l2 : w.at_.hi + w.room_ ≤ 12884901888
  r0 : 0 ≤ w.room_
  w0 : 0 ≤ w.whole_.lo
  w1 : w.whole_.lo ≤ w.whole_.hi
  w2 : w.whole_.hi ≤ 17179869184
  m0 : w.at_.lo ≤ w.whole_.hi
  m1 : w.whole_.lo ≤ w.at_.hi + w.room_
def wlo (w : S_window) : Int := max 0 (w.whole_.lo - w.at_.hi)
def whi (w : S_window) : Int := min w.room_ (w.whole_.hi - w.at_.lo)
/-- The width if so much is added. -/
def wf (w : S_window) (s : Int) : Int := min (w.at_.hi + s) w.whole_.hi - max (w.at_.lo + s) w.whole_.lo
theorem ends_eq {w : S_window} (h : Wk w) : zb w = (wlo w, whi w) := by
  obtain ⟨a, b, c, d, e, f, g, i, j⟩ := h
  unfold zb wlo whi
  rw [imax_eq, imin_eq, yi (by omega) (by omega), yi (by omega) (by omega)]
theorem seen_eq {w : S_window} (h : Wk w) {s : Int} (h0 : 0 ≤ s) (h1 : s ≤ w.room_) : zh w s = ⟨max (w.at_.lo + s) w.whole_.lo, min (w.at_.hi + s) w.whole_.hi⟩ := by
  obtain ⟨a, b, c, d, e, f, g, i, j⟩ := h
  unfold zh
  rw [yi (by omega) (by omega), yi (by omega) (by omega), common_eq]
  simp only []
  cases decide (max (w.at_.lo + s) w.whole_.lo ≤ min (w.at_.hi + s) w.whole_.hi) <;> rfl
/-- The greatest width; the least number added for it. -/
def wpos (w : S_window) : Int := min (max (min (w.whole_.lo - w.at_.lo) (w.whole_.hi - w.at_.hi)) (wlo w)) (whi w)
theorem widest_eq {w : S_window} (h : Wk w) : zY w = (wf w (wpos w), wpos w) := by
  have hk := h
  obtain ⟨a, b, c, d, e, f, g, i, j⟩ := h
  unfold zY
  rw [ends_eq hk]
  simp only []
  rw [imax_eq, imax_eq, imin_eq, imin_eq, yi (n := w.whole_.lo - w.at_.lo) (by omega) (by omega), yi (n := w.whole_.hi - w.at_.hi) (by omega) (by omega)]
  have hle : wlo w ≤ whi w := by unfold wlo whi; omega
  have hlo : 0 ≤ wlo w := by unfold wlo; omega
  have hhi : whi w ≤ w.room_ := by unfold whi; omega
  have hs4 : ∀ l : List Int, l.length ≤ 1000 → sort4 l = srt l := fun l hl => isort_eq hl
  rw [hs4 _ (by simp)]
  have hmem : ∀ s, s ∈ srt [wlo w, whi w, min (max (w.whole_.lo - w.at_.lo) (wlo w)) (whi w), min (max (w.whole_.hi - w.at_.hi) (wlo w)) (whi w)] ↔ s ∈ [wlo w, whi w, min (max (w.whole_.lo - w.at_.lo) (wlo w)) (whi w), min (max (w.whole_.hi - w.at_.hi) (wlo w)) (whi w)] := fun s => (srt_perm _).mem_iff
  have hin : ∀ s ∈ srt [wlo w, whi w, min (max (w.whole_.lo - w.at_.lo) (wlo w)) (whi w), min (max (w.whole_.hi - w.at_.hi) (wlo w)) (whi w)], wlo w ≤ s ∧ s ≤ whi w := by
    intro s hs
    have := (hmem s).1 hs
    simp only [List.mem_cons, List.mem_nil_iff, or_false] at this
    omega
  rw [wide6 (f := wf w) _ (-1) 0 (wf w (wpos w)) (wpos w)]
  · intro s hs
    have := hin s hs
    rw [seen_eq hk (by omega) (by omega)]
    unfold wf
    exact yi (by simp only []; omega) (by simp only []; omega)
  · exact srt_sorted _
  · unfold wf wpos wlo whi; omega
  · intro s hs
    have := hin s hs
    unfold wf wpos wlo whi at *
    omega
  · rw [hmem]
    simp only [List.mem_cons, List.mem_nil_iff, or_false]
    unfold wpos
    omega
  · rfl
  · intro s hs hsm
    have := hin s hs
    unfold wf wpos wlo whi at *
    omega
end Go.VS

/-
  Orders: gains; the width that is left; what is needed. (A text of this claim's own; nothing of it is trusted.)
-/
namespace Go.VS
set_option maxHeartbeats 0
theorem right_of {e : S_Estate} {items : GS Int} (hL : items.l.length ≤ 9223372036854775807) (h : V e) (hi : inc (-1) (e.items.l.length : Int) items.l) : orders_right e items = 0 := (right_iff hL).2 ⟨check_iff.2 h, hi⟩
theorem inc_short {e : S_Estate} {l : List Int} (h : V e) (hi : inc (-1) (e.items.l.length : Int) l) : l.length ≤ 12 := by
  have := h.n2
  by_cases hn : l = []
  · rw [hn]; simp
  · have := inc_len hi (by omega) hn
    omega
/-! ### gains -/
def gn (x : S_Item) : Int := max 0 (x.now.hi - x.now.lo - 2 * x.error)
theorem gain_eq {x : S_Item} (h : OkItem x) : zg x = gn x := by
  obtain ⟨a, b, c, d, e, f, g⟩ := h
  unfold zg gn
  rw [imax_eq, yi (n := x.now.hi - x.now.lo) (by omega) (by omega), yi (n := 2 * x.error) (by omega) (by omega), yi (by omega) (by omega)]
theorem gn_bd {x : S_Item} (h : OkItem x) : 0 ≤ gn x ∧ gn x ≤ x.now.hi - x.now.lo := by
  obtain ⟨a, b, c, d, e, f, g⟩ := h
  unfold gn
  omega
/-- What items gain. -/
def gs (e : S_Estate) (l : List Int) : List Int := l.map (fun i => gn (e.items.at i))
theorem gains_eq {e : S_Estate} (h : V e) {items : GS Int} (hi : ∀ i ∈ items.l, 0 ≤ i ∧ i < (e.items.l.length : Int)) : (zB e items).l = gs e items.l := by
  rw [(gains_l e items).1]
  refine List.map_congr_left fun i hm => ?_
  exact gain_eq (h.it _ (at_mem (hi i hm).1 (hi i hm).2))
theorem tot_app (a b : List Int) : tot (a ++ b) = tot a + tot b := by
  induction a with
  | nil => simp [tot]
  | cons x a ih => simp only [List.cons_append, tot, ih]; omega
theorem total3_eq : ∀ (l : List Int) (n : Int), (∀ x ∈ l, 0 ≤ x ∧ x ≤ 1073741824) → 0 ≤ n → n + 1073741824 * (l.length : Int) ≤ 4611686018427387904 → orders_total_3 l n = .x0 (n + tot l)
  | [], n, _, _, _ => by simp [orders_total_3, tot]
  | x :: l, n, h, h0, h1 => by
    have hx := h x List.mem_cons_self
    simp only [List.length_cons] at h1
    unfold orders_total_3
    rw [yi (by omega) (by omega), total3_eq l _ (fun y hy => h y (List.mem_cons_of_mem _ hy)) (by omega) (by omega)]
    simp only [tot]
    congr 1
    omega
theorem total_eq {s : GS Int} (h : ∀ x ∈ s.l, 0 ≤ x ∧ x ≤ 1073741824) (hn : s.l.length ≤ 1000) : zN s = tot s.l := by
  unfold zN
  rw [total3_eq s.l 0 h (by omega) (by omega)]
  simp
theorem gs_bd {e : S_Estate} (h : V e) {l : List Int} (hi : ∀ i ∈ l, 0 ≤ i ∧ i < (e.items.l.length : Int)) : ∀ x ∈ gs e l, 0 ≤ x ∧ x ≤ 1073741824 := by
  intro x hx
  obtain ⟨i, hm, rfl⟩ := List.mem_map.1 hx
  have hk := h.it _ (at_mem (hi i hm).1 (hi i hm).2)
  have := gn_bd hk
  have := hk.2.2.1; have := hk.1
  omega
def Gl (e : S_Estate) : List Int := e.items.l.map gn
theorem tot_nonneg : ∀ {l : List Int}, (∀ x ∈ l, 0 ≤ x) → 0 ≤ tot l
  | [], _ => Int.le_refl _
  | x :: l, h => by
    have := h x List.mem_cons_self
    have := tot_nonneg (l := l) (fun y hy => h y (List.mem_cons_of_mem _ hy))
    simp only [tot]; omega
theorem tot_drop {l : List Int} (h : ∀ x ∈ l, 0 ≤ x) {i j : Nat} (hij : i ≤ j) : tot (l.drop j) ≤ tot (l.drop i) := by
  have e : l.drop j = (l.drop i).drop (j - i) := by rw [List.drop_drop]; congr 1; omega
  rw [e]
  have := tot_app ((l.drop i).take (j - i)) ((l.drop i).drop (j - i))
  rw [List.take_append_drop] at this
  have : 0 ≤ tot ((l.drop i).take (j - i)) := tot_nonneg fun x hx => h x (List.mem_of_mem_drop (List.mem_of_mem_take hx))
  omega
theorem Gl_nonneg {e : S_Estate} (h : V e) : ∀ x ∈ Gl e, 0 ≤ x := by
  intro x hx
  obtain ⟨y, hy, rfl⟩ := List.mem_map.1 hx
  exact (gn_bd (h.it y hy)).1
theorem gs_le {e : S_Estate} (h : V e) : ∀ {p : Int} {l : List Int}, -1 ≤ p → inc p (e.items.l.length : Int) l → tot (gs e l) ≤ tot ((Gl e).drop (p + 1).toNat)
  | p, [], hp, _ => tot_nonneg fun x hx => Gl_nonneg h x (List.mem_of_mem_drop hx)
  | p, x :: l, hp, hi => by
    obtain ⟨h1, h2, h3, h4⟩ := hi
    have ih := gs_le h (p := x) (by omega) h4
    have hlt : x.toNat < (Gl e).length := by unfold Gl; rw [List.length_map]; omega
    have hd : (Gl e).drop x.toNat = (Gl e)[x.toNat] :: (Gl e).drop (x.toNat + 1) := List.drop_eq_getElem_cons hlt
    have hg : (Gl e)[x.toNat] = gn (e.items.at x) := by
      have hlt' : x.toNat < e.items.l.length := by omega
      simp only [Gl, List.getElem_map, GS.at, List.getD_eq_getElem?_getD, List.getElem?_eq_getElem hlt']
      rfl
    have hm := tot_drop (Gl_nonneg h) (i := (p + 1).toNat) (j := x.toNat) (by omega)
    rw [hd, hg] at hm
    rw [show (x + 1).toNat = x.toNat + 1 by omega] at ih
    simp only [gs, List.map_cons, tot] at *
    omega
theorem Gl_tot {e : S_Estate} (h : V e) : tot (Gl e) ≤ sHi e.items.l - sLo e.items.l := by
  have key : ∀ l : List S_Item, (∀ x ∈ l, OkItem x) → tot (l.map gn) ≤ sHi l - sLo l := by
    intro l
    induction l with
    | nil => intro _; simp [tot, sHi, sLo]
    | cons x l ih =>
      intro hl
      have := ih fun y hy => hl y (List.mem_cons_of_mem _ hy)
      have := gn_bd (hl x List.mem_cons_self)
      simp only [List.map_cons, tot, sHi, sLo]
      omega
  exact key _ h.it
theorem gs_range {e : S_Estate} (h : V e) {l : List Int} (hi : inc (-1) (e.items.l.length : Int) l) : 0 ≤ tot (gs e l) ∧ tot (gs e l) ≤ sHi e.items.l - sLo e.items.l := by
  have h1 := gs_le h (by omega) hi
  have h2 := Gl_tot h
  have h3 := gs_bd h (inc_mem hi)
  simp at h1
  exact ⟨tot_nonneg fun x hx => (h3 x hx).1, by omega⟩
/-! ### the width that is left behind a gain -/
def wn (e : S_Estate) (g : Int) : S_window := ⟨⟨sLo e.items.l, sHi e.items.l - g⟩, g, e.whole⟩
def Wg (e : S_Estate) (g : Int) : Int := wf (wn e g) (wpos (wn e g))
theorem wn_ok {e : S_Estate} (h : V e) {g : Int} (h0 : 0 ≤ g) (h1 : g ≤ sHi e.items.l - sLo e.items.l) : Wk (wn e g) := by
  have hb := sums_bd h.sp
  have := h.n2
  have := h.lo; have := h.hi
  refine ⟨hb.1, ?_, ?_, h0, h.w0, h.w1, h.w2, h.lo, ?_⟩ <;> simp only [wn] <;> omega
theorem windowOf_eq {e : S_Estate} (h : V e) {g : Int} (h0 : 0 ≤ g) (h1 : g ≤ sHi e.items.l - sLo e.items.l) : zz e g = wn e g := by
  have hb := sums_bd h.sp
  have := h.n2
  unfold zz wn
  rw [all_eq h.sp h.n2]
  simp only []
  rw [yi (by omega) (by omega)]
theorem wide_eq {e : S_Estate} (h : V e) {g : Int} (h0 : 0 ≤ g) (h1 : g ≤ sHi e.items.l - sLo e.items.l) : zY (zz e g) = (Wg e g, wpos (wn e g)) := by
  rw [windowOf_eq h h0 h1, widest_eq (wn_ok h h0 h1)]; rfl
theorem Wg_eq {e : S_Estate} (h : V e) {g : Int} (h0 : 0 ≤ g) (h2 : g ≤ sHi e.items.l - sLo e.items.l) : Wg e g = min (sHi e.items.l - sLo e.items.l - g) (hiS e - loS e) := by
  have := h.lo; have := h.hi; have := h.w1
  unfold Wg wf wpos wlo whi wn hiS loS
  simp only []
  omega
theorem Wg_mono {e : S_Estate} (h : V e) {g g' : Int} (h0 : 0 ≤ g) (h1 : g ≤ g') (h2 : g' ≤ sHi e.items.l - sLo e.items.l) : Wg e g' ≤ Wg e g := by
  rw [Wg_eq h (by omega) h2, Wg_eq h h0 (by omega)]
  omega
theorem Wg_nonneg {e : S_Estate} (h : V e) {g : Int} (h0 : 0 ≤ g) (h2 : g ≤ sHi e.items.l - sLo e.items.l) : 0 ≤ Wg e g := by
  have := loS_hiS h
  rw [Wg_eq h h0 h2]
  omega
theorem Wg_top {e : S_Estate} (h : V e) : Wg e (sHi e.items.l - sLo e.items.l) ≤ 0 := by
  have hb := sums_bd h.sp
  rw [Wg_eq h (by omega) (by omega)]
  omega
theorem gtot_eq {e : S_Estate} (h : V e) {items : GS Int} (hi : inc (-1) (e.items.l.length : Int) items.l) : zN (zB e items) = tot (gs e items.l) := by
  have := inc_short h hi
  rw [total_eq (by rw [gains_eq h (inc_mem hi)]; exact gs_bd h (inc_mem hi)) (by rw [zj]; omega), gains_eq h (inc_mem hi)]
theorem worst_eq {e : S_Estate} (h : V e) {items : GS Int} (hL : items.l.length ≤ 9223372036854775807) (hi : inc (-1) (e.items.l.length : Int) items.l) : zG e items = (Wg e (tot (gs e items.l)), 0) := by
  have hr := gs_range h hi
  unfold zG zw
  rw [right_of hL h hi, gtot_eq h hi, wide_eq h hr.1 hr.2]
  rfl
/-! ### all items -/
theorem upto_inc (n : Nat) : inc (-1) (n : Int) (upto (n : Int)) := by
  have key : ∀ (k i : Nat), i + k = n → inc ((i : Int) - 1) (n : Int) ((List.range' i k).map (fun i => ((i : Nat) : Int))) := by
    intro k
    induction k with
    | zero => intro i _; exact trivial
    | succ k ih =>
      intro i hi
      rw [List.range'_succ]
      simp only [List.map_cons, inc]
      refine ⟨by omega, by omega, by omega, ?_⟩
      have := ih (i + 1) (by omega)
      rwa [show ((i + 1 : Nat) : Int) - 1 = (i : Int) by omega] at this
  unfold upto
  rw [Int.toNat_natCast, List.range_eq_range']
  exact key n 0 (by omega)
theorem gs_upto (e : S_Estate) : gs e (upto (e.items.l.length : Int)) = Gl e := by
  unfold gs Gl upto
  rw [Int.toNat_natCast, List.map_map]
  refine List.ext_getElem (by simp) fun i h1 h2 => ?_
  have hlt : i < e.items.l.length := by simpa using h2
  simp only [List.getElem_map, List.getElem_range, Function.comp, GS.at, Int.toNat_natCast, List.getD_eq_getElem?_getD, List.getElem?_eq_getElem hlt]
  rfl
theorem gall_eq {e : S_Estate} (h : V e) : zN (zB e (y0 ((e.items.l.length : Nat) : Int))) = tot (Gl e) := by
  have e1 : (y0 ((e.items.l.length : Nat) : Int)).l = upto (e.items.l.length : Int) := (numbers_l _).1
  rw [gtot_eq h (by rw [e1]; exact upto_inc _), e1, gs_upto]
/-! ### what is needed -/
theorem need8 {e : S_Estate} (h : V e) {width : Int} : ∀ (n : Nat) (lo hi : Int), 0 ≤ lo → lo ≤ hi → hi ≤ sHi e.items.l - sLo e.items.l → (hi - lo).toNat < n → (∀ g, 0 ≤ g → g < lo → Wg e g > width) → (∀ g, hi ≤ g → g ≤ sHi e.items.l - sLo e.items.l → Wg e g ≤ width) →
    ∃ m m', orders_Need_8 e width n lo hi = .x0 m m' ∧ 0 ≤ m ∧ m ≤ sHi e.items.l - sLo e.items.l ∧ ∀ g, 0 ≤ g → g ≤ sHi e.items.l - sLo e.items.l → (Wg e g ≤ width ↔ m ≤ g)
  | 0, _, _, _, _, _, hh, _, _ => by omega
  | n + 1, lo, hi, h0, h1, h2, hn, hA, hB => by
    have hb := sums_bd h.sp
    have hn2 := h.n2
    unfold orders_Need_8
    cases h3 : decide (lo < hi) with
    | false =>
      have := of_decide_eq_false h3
      refine ⟨lo, hi, rfl, h0, by omega, fun g g0 g1 => ⟨fun hw => ?_, fun hl => hB g (by omega) g1⟩⟩
      by_cases hlt : g < lo
      · have := hA g g0 hlt; omega
      · omega
    | true =>
      have h3' := of_decide_eq_true h3
      simp only [cond_true]
      have e1 : w64 (lo + hi) = lo + hi := yi (by omega) (by omega)
      have e0 : (lo + hi).tdiv 2 = (lo + hi) / 2 := Int.tdiv_eq_ediv_of_nonneg (by omega)
      rw [e1, e0, yi (n := (lo + hi) / 2) (by omega) (by omega), yi (n := (lo + hi) / 2 + 1) (by omega) (by omega), wide_eq h (by omega) (by omega)]
      simp only []
      cases h4 : decide (Wg e ((lo + hi) / 2) ≤ width) with
      | true =>
        have h4' := of_decide_eq_true h4
        exact need8 h n lo _ h0 (by omega) (by omega) (by omega) hA (fun g g0 g1 => by
          have := Wg_mono h (g := (lo + hi) / 2) (by omega) g0 g1
          omega)
      | false =>
        have h4' := of_decide_eq_false h4
        exact need8 h n _ hi (by omega) (by omega) h2 (by omega) (fun g g0 g1 => by
          have := Wg_mono h (g := g) g0 (by omega : g ≤ (lo + hi) / 2) (by omega)
          omega) hB
theorem need_eq {e : S_Estate} (h : V e) {width : Int} (hw : 0 ≤ width) : ∃ m, zC e width = (m, decide (tot (Gl e) ≥ m), 0) ∧ 0 ≤ m ∧ ∀ g, 0 ≤ g → g ≤ sHi e.items.l - sLo e.items.l → (Wg e g ≤ width ↔ m ≤ g) := by
  have hb := sums_bd h.sp
  have hn := h.n2
  unfold zC
  rw [check_iff.2 h, all_eq h.sp h.n2, decide_eq_false (by omega : ¬ width < 0), gall_eq h]
  simp only [bne_self_eq_false, cond_false]
  rw [yi (by omega) (by omega)]
  obtain ⟨m, m', h1, h2, h3, h4⟩ := need8 h (width := width) ((sHi e.items.l - sLo e.items.l - 0).toNat + 1) 0 (sHi e.items.l - sLo e.items.l) (by omega) (by omega) (by omega) (by omega) (fun g g0 g1 => by omega) (fun g g0 g1 => by
    have := Wg_top h
    have : g = sHi e.items.l - sLo e.items.l := by omega
    subst this; omega)
  refine ⟨m, ?_, h2, h4⟩
  rw [h1]
  simp only []
  cases decide (tot (Gl e) ≥ m) <;> rfl
/-! ### is it among them -/
end Go.VS

/-
  Fronts, plainly: what both ways to a front come to. (A text of this claim's own; nothing of it is trusted.)
-/
namespace Go.VS
open Go
/-- The front of pairs: strictly increasing in both; of them; each pair is had by one that costs no more and gains no less. -/
structure IsFr (L out : List Arr2_Int) : Prop where
  inc : out.Pairwise fun a b => a.x0 < b.x0 ∧ a.x1 < b.x1
  of : ∀ p ∈ out, p ∈ L
  dom : ∀ p ∈ L, ∃ q ∈ out, q.x0 ≤ p.x0 ∧ p.x1 ≤ q.x1
theorem pw_get {α : Type} {R : α → α → Prop} {l : List α} (h : l.Pairwise R) {a b : α} (ha : a ∈ l) (hb : b ∈ l) : a = b ∨ R a b ∨ R b a := by
  induction l with
  | nil => cases ha
  | cons x l ih =>
    have h1 := List.pairwise_cons.1 h
    rcases List.mem_cons.1 ha with ea | ha' <;> rcases List.mem_cons.1 hb with eb | hb'
    · exact .inl (ea.trans eb.symm)
    · exact .inr (.inl (ea ▸ h1.1 _ hb'))
    · exact .inr (.inr (eb ▸ h1.1 _ ha'))
    · exact ih h1.2 ha' hb'
theorem arr_ext {a b : Arr2_Int} (h0 : a.x0 = b.x0) (h1 : a.x1 = b.x1) : a = b := by cases a; cases b; simp_all
theorem IsFr.sub {L L' a b : List Arr2_Int} (ha : IsFr L a) (hb : IsFr L' b) (hL : ∀ p, p ∈ L ↔ p ∈ L') : ∀ p ∈ a, p ∈ b := by
  intro p hp
  obtain ⟨q, hq, q0, q1⟩ := hb.dom p ((hL p).1 (ha.of p hp))
  obtain ⟨r, hr, r0, r1⟩ := ha.dom q ((hL q).2 (hb.of q hq))
  rcases pw_get ha.inc hp hr with h | h | h
  · subst h
    have : q = p := arr_ext (by omega) (by omega)
    rw [← this]; exact hq
  · omega
  · omega
theorem inc_eq {a b : List Arr2_Int} (ha : a.Pairwise fun a b => a.x0 < b.x0 ∧ a.x1 < b.x1) (hb : b.Pairwise fun a b => a.x0 < b.x0 ∧ a.x1 < b.x1) (h : ∀ p, p ∈ a ↔ p ∈ b) : a = b := by
  induction a generalizing b with
  | nil =>
    cases b with
    | nil => rfl
    | cons y b => exact absurd ((h y).2 (by simp)) (by simp)
  | cons x a ih =>
    cases b with
    | nil => exact absurd ((h x).1 (by simp)) (by simp)
    | cons y b =>
      have ha' := List.pairwise_cons.1 ha
      have hb' := List.pairwise_cons.1 hb
      have hxy : x = y := by
        rcases List.mem_cons.1 ((h x).1 (by simp)) with e | hx
        · exact e
        · rcases List.mem_cons.1 ((h y).2 (by simp)) with e | hy
          · exact e.symm
          · have := ha'.1 _ hy; have := hb'.1 _ hx; omega
      subst hxy
      congr 1
      refine ih ha'.2 hb'.2 fun p => ⟨fun hp => ?_, fun hp => ?_⟩
      · rcases List.mem_cons.1 ((h p).1 (List.mem_cons_of_mem _ hp)) with e | h1
        · subst e; have := ha'.1 _ hp; omega
        · exact h1
      · rcases List.mem_cons.1 ((h p).2 (List.mem_cons_of_mem _ hp)) with e | h1
        · subst e; have := hb'.1 _ hp; omega
        · exact h1
theorem IsFr.uniq {L L' a b : List Arr2_Int} (ha : IsFr L a) (hb : IsFr L' b) (hL : ∀ p, p ∈ L ↔ p ∈ L') : a = b :=
  inc_eq ha.inc hb.inc fun p => ⟨ha.sub hb hL p, hb.sub ha (fun p => (hL p).symm) p⟩
/-- One more pair, behind all that are had. -/
theorem IsFr.skip {L i : List Arr2_Int} {y p : Arr2_Int} (h : IsFr L (i ++ [y])) (h0 : y.x0 ≤ p.x0) (h1 : p.x1 ≤ y.x1) : IsFr (L ++ [p]) (i ++ [y]) where
  inc := h.inc
  of := fun q hq => List.mem_append_left _ (h.of q hq)
  dom := fun q hq => by
    rcases List.mem_append.1 hq with hq | hq
    · exact h.dom q hq
    · rw [List.mem_singleton.1 hq]; exact ⟨y, by simp, h0, h1⟩
theorem IsFr.app {L i : List Arr2_Int} {y p : Arr2_Int} (h : IsFr L (i ++ [y])) (h0 : y.x0 < p.x0) (h1 : y.x1 < p.x1) : IsFr (L ++ [p]) (i ++ [y] ++ [p]) where
  inc := by
    refine List.pairwise_append.2 ⟨h.inc, by simp, fun a ha b hb => ?_⟩
    rw [List.mem_singleton.1 hb]
    rcases List.mem_append.1 ha with ha | ha
    · have := (List.pairwise_append.1 h.inc).2.2 a ha y (by simp); omega
    · rw [List.mem_singleton.1 ha]; omega
  of := fun q hq => by
    rcases List.mem_append.1 hq with hq | hq
    · exact List.mem_append_left _ (h.of q hq)
    · exact List.mem_append_right _ hq
  dom := fun q hq => by
    rcases List.mem_append.1 hq with hq | hq
    · obtain ⟨r, hr, h2⟩ := h.dom q hq; exact ⟨r, List.mem_append_left _ hr, h2⟩
    · rw [List.mem_singleton.1 hq]; exact ⟨p, by simp, Int.le_refl _, Int.le_refl _⟩
theorem IsFr.put {L i : List Arr2_Int} {y p : Arr2_Int} (h : IsFr L (i ++ [y])) (h0 : y.x0 = p.x0) (h1 : y.x1 < p.x1) : IsFr (L ++ [p]) (i ++ [p]) where
  inc := by
    have h2 := List.pairwise_append.1 h.inc
    refine List.pairwise_append.2 ⟨h2.1, by simp, fun a ha b hb => ?_⟩
    rw [List.mem_singleton.1 hb]
    have := h2.2.2 a ha y (by simp); omega
  of := fun q hq => by
    rcases List.mem_append.1 hq with hq | hq
    · exact List.mem_append_left _ (h.of q (List.mem_append_left _ hq))
    · exact List.mem_append_right _ hq
  dom := fun q hq => by
    rcases List.mem_append.1 hq with hq | hq
    · obtain ⟨r, hr, h2, h3⟩ := h.dom q hq
      rcases List.mem_append.1 hr with hr | hr
      · exact ⟨r, List.mem_append_left _ hr, h2, h3⟩
      · rw [List.mem_singleton.1 hr] at h2 h3
        exact ⟨p, by simp, by omega, by omega⟩
    · rw [List.mem_singleton.1 hq]; exact ⟨p, by simp, Int.le_refl _, Int.le_refl _⟩
theorem isFr_one (p : Arr2_Int) : IsFr [p] [p] where
  inc := by simp
  of := fun q hq => hq
  dom := fun q hq => ⟨q, hq, Int.le_refl _, Int.le_refl _⟩
theorem IsFr.ne {L out : List Arr2_Int} (h : IsFr L out) (hL : L ≠ []) : ∃ i y, out = i ++ [y] := by
  rcases List.eq_nil_or_concat out with rfl | ⟨i, y, rfl⟩
  · cases L with
    | nil => exact absurd rfl hL
    | cons p L => obtain ⟨q, hq, _⟩ := h.dom p (by simp); cases hq
  · exact ⟨i, y, by simp⟩
theorem last_at {i : List Arr2_Int} {y : Arr2_Int} (hl : (i ++ [y]).length ≤ 1099511627776) : (i ++ [y]).getD (w64 ((((i ++ [y]).length : Nat) : Int) - 1)).toNat default = y := by
  rw [yi (by omega) (by omega)]
  have : ((((i ++ [y]).length : Nat) : Int) - 1).toNat = i.length := by simp
  rw [this, List.getD_eq_getElem?_getD, List.getElem?_append_right (Nat.le_refl _)]
  simp
/-- What is sorted: by cost, then the greater gain first. -/
def Bef (a b : Arr2_Int) : Prop := a.x0 < b.x0 ∨ a.x0 = b.x0 ∧ b.x1 ≤ a.x1
theorem front_walk : ∀ (l done v : List Arr2_Int), IsFr done v → done ≠ [] → (∀ d ∈ done, ∀ p ∈ l, Bef d p) → l.Pairwise Bef → v.length + l.length ≤ 1099511627776 →
    ∃ w, au70_2_3_4a l v = .x0 w ∧ IsFr (done ++ l) w
  | [], done, v, h, _, _, _, _ => ⟨v, rfl, by simpa using h⟩
  | x :: l, done, v, h, hd, hb, hp, hl => by
    obtain ⟨i, y, rfl⟩ := h.ne hd
    have hl' : (i ++ [y]).length ≤ 1099511627776 := by omega
    have hp' := List.pairwise_cons.1 hp
    have hy : Bef y x := hb y (h.of y (by simp)) x (by simp)
    have hb' : ∀ d ∈ done ++ [x], ∀ p ∈ l, Bef d p := fun d hd p hq => by
      rcases List.mem_append.1 hd with hd | hd
      · exact hb d hd p (List.mem_cons_of_mem _ hq)
      · rw [List.mem_singleton.1 hd]; exact hp'.1 p hq
    have hne : done ++ [x] ≠ [] := by simp
    unfold au70_2_3_4a
    rw [last_at hl', Bool.cond_eq_ite, if_neg (by simp; omega), Bool.cond_eq_ite]
    unfold Bef at hy
    simp only [List.length_cons] at hl
    split
    · rename_i hc
      simp only [decide_eq_true_eq] at hc
      obtain ⟨w, h1, h2⟩ := front_walk l (done ++ [x]) (i ++ [y] ++ [x]) (h.app (by omega) (by omega)) hne hb' hp'.2 (by simp at hl ⊢; omega)
      exact ⟨w, h1, by simpa using h2⟩
    · rename_i hc
      simp only [decide_eq_true_eq] at hc
      obtain ⟨w, h1, h2⟩ := front_walk l (done ++ [x]) (i ++ [y]) (h.skip (by omega) (by omega)) hne hb' hp'.2 (by simp at hl ⊢; omega)
      exact ⟨w, h1, by simpa using h2⟩
theorem srtA_mem {l : List Arr2_Int} {p : Arr2_Int} : p ∈ srtA l ↔ p ∈ l := by
  unfold srtA
  rw [List.mem_map]
  constructor
  · rintro ⟨q, hq, rfl⟩
    have := (srtP_perm pairCmp_swo (l.map fun x => (x.x0, x.x1))).mem_iff.1 hq
    obtain ⟨x, hx, rfl⟩ := List.mem_map.1 this
    exact hx
  · intro hp
    exact ⟨(p.x0, p.x1), (srtP_perm pairCmp_swo (l.map fun x => (x.x0, x.x1))).mem_iff.2 (List.mem_map.2 ⟨p, hp, rfl⟩), rfl⟩
theorem srtA_sorted (l : List Arr2_Int) : (srtA l).Pairwise Bef := by
  unfold srtA
  rw [List.pairwise_map]
  refine (srtP_sorted pairCmp_swo _).imp fun {a b} h => ?_
  have h1 : ¬ pairCmp b a < 0 := of_decide_eq_false h
  rw [pairCmp_neg] at h1
  unfold Bef
  show a.1 < b.1 ∨ a.1 = b.1 ∧ b.2 ≤ a.2
  omega
/-- What the program's front is. -/
theorem front_is {l : List Arr2_Int} (h : 1 ≤ l.length) (hl : l.length ≤ 1099511627776) : IsFr l (y9 l) := by
  have hs := zv l
  have hp := srtA_sorted l
  have hm := fun p => srtA_mem (l := l) (p := p)
  unfold y9
  generalize srtA l = s at hs hp hm
  cases s with
  | nil => simp at hs; omega
  | cons x s =>
    have hp' := List.pairwise_cons.1 hp
    obtain ⟨w, h1, h2⟩ := front_walk s [x] [x] (isFr_one x) (by simp) (fun d hd p hq => by rw [List.mem_singleton.1 hd]; exact hp'.1 p hq) hp'.2 (by simp at hs ⊢; omega)
    have h3 : au70_2_3_4 (x :: s) = .x0 w := h1
    rw [h3]
    exact ⟨h2.inc, fun p hq => (hm p).1 (h2.of p hq), fun p hq => h2.dom p ((hm p).2 hq)⟩
end Go.VS

/-
  Fronts, plainly: the reference's way; all fronts. (A text of this claim's own; nothing of it is trusted.)
-/
namespace Go.VS
open Go
/-- What the reference does with the next pair. -/
def stpF (v : List Arr2_Int) (p : Arr2_Int) : List Arr2_Int :=
  bif decide ((v.getD (w64 (((v.length : Nat) : Int) - 1)).toNat default).x1 ≥ p.x1) then v
  else bif ((v.getD (w64 (((v.length : Nat) : Int) - 1)).toNat default).x0 == p.x0) then v.set (w64 (((v.length : Nat) : Int) - 1)).toNat p
  else v ++ [p]
theorem stpF_app {f : List Arr2_Int → LR_r_next_4} {v : List Arr2_Int} {p : Arr2_Int} : f (stpF v p) = bif decide ((v.getD (w64 (((v.length : Nat) : Int) - 1)).toNat default).x1 ≥ p.x1) then f v
  else bif ((v.getD (w64 (((v.length : Nat) : Int) - 1)).toNat default).x0 == p.x0) then f (v.set (w64 (((v.length : Nat) : Int) - 1)).toNat p) else f (v ++ [p]) := by
  unfold stpF
  cases decide ((v.getD (w64 (((v.length : Nat) : Int) - 1)).toNat default).x1 ≥ p.x1) with
  | true => rfl
  | false => cases ((v.getD (w64 (((v.length : Nat) : Int) - 1)).toNat default).x0 == p.x0) <;> rfl
def shf (x : S_Item) (p : Arr2_Int) : Arr2_Int := ⟨w64 (p.x0 + x.cost), w64 (p.x1 + r_Gain x)⟩
theorem next_step {front : GS Arr2_Int} {x : S_Item} {n : Nat} {v : List Arr2_Int} {i k : Int} (hv : 1 ≤ v.length) : zT front x (n + 1) v i k =
    bif decide (i < ((front.l.length : Nat) : Int)) then
      bif (k == ((front.l.length : Nat) : Int)) then zT front x n (stpF v (front.at i)) (w64 (i + 1)) k
      else bif decide ((front.at i).x0 ≤ w64 ((front.at k).x0 + x.cost)) then zT front x n (stpF v (front.at i)) (w64 (i + 1)) k
      else zT front x n (stpF v (shf x (front.at k))) i (w64 (k + 1))
    else bif decide (k < ((front.l.length : Nat) : Int)) then zT front x n (stpF v (shf x (front.at k))) i (w64 (k + 1))
    else .x0 v i k := by
  have hlen : decide (((v.length : Nat) : Int) > 0) = true := decide_eq_true (by omega)
  rw [stpF_app (f := fun z => zT front x n z (w64 (i + 1)) k), stpF_app (f := fun z => zT front x n z i (w64 (k + 1)))]
  conv => lhs; unfold zT
  simp only [hlen, cond_true, shf]
  cases h1 : decide (i < ((front.l.length : Nat) : Int)) with
  | true => rfl
  | false =>
    simp only [cond_false]
    cases h2 : decide (k < ((front.l.length : Nat) : Int)) with
    | true =>
      have h3 : (k == ((front.l.length : Nat) : Int)) = false := by
        have := of_decide_eq_true h2
        exact beq_false_of_ne (by omega)
      simp only [h3, cond_true, cond_false]
      rfl
    | false => rfl
theorem IsFr.congr {L L' v : List Arr2_Int} (h : IsFr L v) (hL : ∀ p, p ∈ L ↔ p ∈ L') : IsFr L' v :=
  ⟨h.inc, fun p hp => (hL p).1 (h.of p hp), fun p hp => h.dom p ((hL p).2 hp)⟩
theorem last_set {i : List Arr2_Int} {y p : Arr2_Int} (hl : (i ++ [y]).length ≤ 1099511627776) : (i ++ [y]).set (w64 ((((i ++ [y]).length : Nat) : Int) - 1)).toNat p = i ++ [p] := by
  rw [yi (by omega) (by omega)]
  have : ((((i ++ [y]).length : Nat) : Int) - 1).toNat = i.length := by simp
  rw [this, List.set_append_right _ _ (Nat.le_refl _)]
  simp
theorem stpF_is {L v : List Arr2_Int} {p : Arr2_Int} (h : IsFr L v) (hL : L ≠ []) (hp : ∀ d ∈ L, d.x0 ≤ p.x0) (hl : v.length ≤ 1099511627776) : IsFr (L ++ [p]) (stpF v p) ∧ 1 ≤ (stpF v p).length ∧ (stpF v p).length ≤ v.length + 1 := by
  obtain ⟨i, y, rfl⟩ := h.ne hL
  have hy := hp y (h.of y (by simp))
  unfold stpF
  rw [last_at hl, last_set hl, Bool.cond_eq_ite]
  split
  · rename_i hc
    simp only [decide_eq_true_eq] at hc
    exact ⟨h.skip hy (by omega), by simp, by simp⟩
  · rename_i hc
    simp only [decide_eq_true_eq] at hc
    rw [Bool.cond_eq_ite]
    split
    · rename_i hd
      simp only [beq_iff_eq] at hd
      exact ⟨h.put hd (by omega), by simp, by simp⟩
    · rename_i hd
      simp only [beq_iff_eq] at hd
      exact ⟨h.app (by omega) (by omega), by simp, by simp⟩
/-- What has been taken. -/
def tk (q : List Arr2_Int) (x : S_Item) (i k : Nat) : List Arr2_Int := q.take i ++ (q.take k).map (shf x)
theorem tk_i {q : List Arr2_Int} {x : S_Item} {i k : Nat} (h : i < q.length) (p : Arr2_Int) : p ∈ tk q x i k ++ [q.getD i default] ↔ p ∈ tk q x (i + 1) k := by
  unfold tk
  rw [List.take_add_one, List.getElem?_eq_getElem h, List.getD_eq_getElem?_getD, List.getElem?_eq_getElem h]
  simp only [List.mem_append, Option.toList, Option.getD]
  constructor
  · rintro ((h | h) | h)
    · exact .inl (.inl h)
    · exact .inr h
    · exact .inl (.inr h)
  · rintro ((h | h) | h)
    · exact .inl (.inl h)
    · exact .inr h
    · exact .inl (.inr h)
theorem tk_k {q : List Arr2_Int} {x : S_Item} {i k : Nat} (h : k < q.length) (p : Arr2_Int) : p ∈ tk q x i k ++ [shf x (q.getD k default)] ↔ p ∈ tk q x i (k + 1) := by
  unfold tk
  rw [List.take_add_one, List.getElem?_eq_getElem h, List.getD_eq_getElem?_getD, List.getElem?_eq_getElem h]
  simp only [List.mem_append, Option.toList, Option.getD, List.map_append, List.map_cons, List.map_nil]
  constructor
  · rintro ((h | h) | h)
    · exact .inl h
    · exact .inr (.inl h)
    · exact .inr (.inr h)
  · rintro (h | (h | h))
    · exact .inl (.inl h)
    · exact .inl (.inr h)
    · exact .inr h
/-- Nothing that has been taken is behind what is left. -/
structure Ah (q : List Arr2_Int) (x : S_Item) (i k : Nat) : Prop where
  hi : ∀ d ∈ tk q x i k, ∀ j, i ≤ j → j < q.length → d.x0 ≤ (q.getD j default).x0
  hk : ∀ d ∈ tk q x i k, ∀ j, k ≤ j → j < q.length → d.x0 ≤ (shf x (q.getD j default)).x0
theorem next_walk {front : GS Arr2_Int} {x : S_Item} (hN : front.l.length ≤ 4096) (hi : ∀ a b, a ≤ b → b < front.l.length → (front.l.getD a default).x0 ≤ (front.l.getD b default).x0)
    (hs : ∀ a b, a ≤ b → b < front.l.length → (shf x (front.l.getD a default)).x0 ≤ (shf x (front.l.getD b default)).x0) :
    ∀ (n : Nat) (v : List Arr2_Int) (i k : Nat), i ≤ front.l.length → k ≤ front.l.length → 2 * front.l.length < n + i + k → IsFr (tk front.l x i k) v → 1 ≤ i + k → 1 ≤ v.length → v.length ≤ i + k → Ah front.l x i k →
      ∃ w, zT front x n v (i : Int) (k : Int) = .x0 w front.l.length front.l.length ∧ IsFr (tk front.l x front.l.length front.l.length) w
  | 0, v, i, k, h1, h2, h3, _, _, _, _, _ => by omega
  | n + 1, v, i, k, h1, h2, h3, hf, h4, h5, h6, ha => by
    rw [next_step h5]
    have hne : ∀ a b, a ≤ front.l.length → b ≤ front.l.length → 1 ≤ a + b → tk front.l x a b ≠ [] := fun a b ha hb hab => by
      intro h
      have := congrArg List.length h
      simp only [tk, List.length_append, List.length_map, List.length_take, List.length_nil] at this
      omega
    have goI : i < front.l.length → (∀ j, k ≤ j → j < front.l.length → (front.l.getD i default).x0 ≤ (shf x (front.l.getD j default)).x0) → ∃ w, zT front x n (stpF v (front.at (i : Int))) (w64 ((i : Int) + 1)) (k : Int) = .x0 w front.l.length front.l.length ∧ IsFr (tk front.l x front.l.length front.l.length) w := fun hlt hk => by
      rw [yi (by omega) (by omega), show ((i : Int) + 1) = ((i + 1 : Nat) : Int) from by omega]
      have e : front.at (i : Int) = front.l.getD i default := rfl
      rw [e]
      obtain ⟨q1, q2, q3⟩ := stpF_is hf (hne i k h1 h2 h4) (p := front.l.getD i default) (fun d hd => ha.hi d hd i (Nat.le_refl _) hlt) (by omega)
      refine next_walk hN hi hs n _ (i + 1) k (by omega) h2 (by omega) (q1.congr (tk_i hlt)) (by omega) q2 (by omega) ⟨fun d hd j hj hjl => ?_, fun d hd j hj hjl => ?_⟩
      · rcases List.mem_append.1 ((tk_i hlt d).2 hd) with hd | hd
        · exact ha.hi d hd j (by omega) hjl
        · rw [List.mem_singleton.1 hd]; exact hi i j (by omega) hjl
      · rcases List.mem_append.1 ((tk_i hlt d).2 hd) with hd | hd
        · exact ha.hk d hd j hj hjl
        · rw [List.mem_singleton.1 hd]; exact hk j hj hjl
    have goK : k < front.l.length → (∀ j, i ≤ j → j < front.l.length → (shf x (front.l.getD k default)).x0 ≤ (front.l.getD j default).x0) → ∃ w, zT front x n (stpF v (shf x (front.at (k : Int)))) (i : Int) (w64 ((k : Int) + 1)) = .x0 w front.l.length front.l.length ∧ IsFr (tk front.l x front.l.length front.l.length) w := fun hlt hk => by
      rw [yi (by omega) (by omega), show ((k : Int) + 1) = ((k + 1 : Nat) : Int) from by omega]
      have e : front.at (k : Int) = front.l.getD k default := rfl
      rw [e]
      obtain ⟨q1, q2, q3⟩ := stpF_is hf (hne i k h1 h2 h4) (p := shf x (front.l.getD k default)) (fun d hd => ha.hk d hd k (Nat.le_refl _) hlt) (by omega)
      refine next_walk hN hi hs n _ i (k + 1) h1 (by omega) (by omega) (q1.congr (tk_k hlt)) (by omega) q2 (by omega) ⟨fun d hd j hj hjl => ?_, fun d hd j hj hjl => ?_⟩
      · rcases List.mem_append.1 ((tk_k hlt d).2 hd) with hd | hd
        · exact ha.hi d hd j hj hjl
        · rw [List.mem_singleton.1 hd]; exact hk j hj hjl
      · rcases List.mem_append.1 ((tk_k hlt d).2 hd) with hd | hd
        · exact ha.hk d hd j (by omega) hjl
        · rw [List.mem_singleton.1 hd]; exact hs k j (by omega) hjl
    cases c1 : decide ((i : Int) < ((front.l.length : Nat) : Int)) with
    | true =>
      have d1 := of_decide_eq_true c1
      have hlt : i < front.l.length := by omega
      simp only [cond_true]
      cases c2 : ((k : Int) == ((front.l.length : Nat) : Int)) with
      | true =>
        have d2 := eq_of_beq c2
        simp only [cond_true]
        exact goI hlt fun j hj hjl => by omega
      | false =>
        have d2 := ne_of_beq_false c2
        simp only [cond_false]
        have hkl : k < front.l.length := by omega
        cases c3 : decide ((front.at (i : Int)).x0 ≤ w64 ((front.at (k : Int)).x0 + x.cost)) with
        | true =>
          have d3 : (front.l.getD i default).x0 ≤ (shf x (front.l.getD k default)).x0 := of_decide_eq_true c3
          simp only [cond_true]
          exact goI hlt fun j hj hjl => Int.le_trans d3 (hs k j hj hjl)
        | false =>
          have d3 : ¬ (front.l.getD i default).x0 ≤ (shf x (front.l.getD k default)).x0 := of_decide_eq_false c3
          simp only [cond_false]
          exact goK hkl fun j hj hjl => by
            have := hi i j hj hjl
            omega
    | false =>
      have d1 := of_decide_eq_false c1
      simp only [cond_false]
      cases c2 : decide ((k : Int) < ((front.l.length : Nat) : Int)) with
      | true =>
        have d2 := of_decide_eq_true c2
        simp only [cond_true]
        exact goK (by omega) fun j hj hjl => by omega
      | false =>
        have d2 := of_decide_eq_false c2
        simp only [cond_false]
        obtain rfl : i = front.l.length := by omega
        obtain rfl : k = front.l.length := by omega
        exact ⟨v, rfl, hf⟩
end Go.VS

/-
  Fronts, plainly: all fronts are the reference's. (A text of this claim's own; nothing of it is trusted.)
-/
namespace Go.VS
open Go
theorem getD_of_lt {α : Type} [Inhabited α] {l : List α} {i : Nat} (h : i < l.length) : l.getD i default = l[i] := by
  rw [List.getD_eq_getElem?_getD, List.getElem?_eq_getElem h]; rfl
theorem tk10 {q : List Arr2_Int} {x : S_Item} (h : 1 ≤ q.length) : tk q x 1 0 = [q.getD 0 default] := by
  cases q with
  | nil => simp at h
  | cons y l => rfl
theorem tk01 {q : List Arr2_Int} {x : S_Item} (h : 1 ≤ q.length) : tk q x 0 1 = [shf x (q.getD 0 default)] := by
  cases q with
  | nil => simp at h
  | cons y l => rfl
theorem next_is {front : GS Arr2_Int} {x : S_Item} (hN : front.l.length ≤ 4096) (hn : 1 ≤ front.l.length) (hi : ∀ a b, a ≤ b → b < front.l.length → (front.l.getD a default).x0 ≤ (front.l.getD b default).x0)
    (hs : ∀ a b, a ≤ b → b < front.l.length → (shf x (front.l.getD a default)).x0 ≤ (shf x (front.l.getD b default)).x0) :
    ∃ w, r_next front x = GS.some w ∧ IsFr (front.l ++ front.l.map (shf x)) w := by
  have key : ∃ w, r_next_4 front x (2 * front.l.length + 1) = .x0 w front.l.length front.l.length ∧ IsFr (tk front.l x front.l.length front.l.length) w := by
    have c1 : decide (0 < ((front.l.length : Nat) : Int)) = true := decide_eq_true (by omega)
    have c2 : (0 == ((front.l.length : Nat) : Int)) = false := beq_false_of_ne (by omega)
    have e0 : front.at 0 = front.l.getD 0 default := rfl
    simp only [r_next_4, c1, c2, cond_true, cond_false, e0]
    have t1 := tk10 (x := x) hn
    have t2 := tk01 (x := x) hn
    rw [Bool.cond_eq_ite]
    split
    · rename_i c3
      have c3 : (front.l.getD 0 default).x0 ≤ (shf x (front.l.getD 0 default)).x0 := of_decide_eq_true c3
      refine next_walk hN hi hs _ _ 1 0 (by omega) (by omega) (by omega) (by rw [t1]; exact isFr_one _) (by omega) (by simp) (by simp) ⟨fun d hd j hj hjl => ?_, fun d hd j hj hjl => ?_⟩
      · rw [t1] at hd; rw [List.mem_singleton.1 hd]; exact hi 0 j (by omega) hjl
      · rw [t1] at hd; rw [List.mem_singleton.1 hd]; exact Int.le_trans c3 (hs 0 j (by omega) hjl)
    · rename_i c3
      have c3 : ¬ (front.l.getD 0 default).x0 ≤ (shf x (front.l.getD 0 default)).x0 := fun h => c3 (decide_eq_true h)
      refine next_walk hN hi hs _ _ 0 1 (by omega) (by omega) (by omega) (by rw [t2]; exact isFr_one _) (by omega) (by simp) (by simp) ⟨fun d hd j hj hjl => ?_, fun d hd j hj hjl => ?_⟩
      · rw [t2] at hd; rw [List.mem_singleton.1 hd]
        have := hi 0 j (by omega) hjl
        omega
      · rw [t2] at hd; rw [List.mem_singleton.1 hd]; exact hs 0 j (by omega) hjl
  obtain ⟨w, h1, h2⟩ := key
  refine ⟨w, ?_, ?_⟩
  · unfold r_next; rw [h1]
  · unfold tk at h2
    rwa [List.take_length] at h2
theorem gain_same (x : S_Item) : zg x = r_Gain x := by
  unfold zg r_Gain
  rw [imax_eq, imax_eq, Int.max_comm]
/-- The next front. -/
def nf (q : List Arr2_Int) (x : S_Item) : List Arr2_Int := y9 (q ++ q.map (shf x))
def frs : List S_Item → List Arr2_Int → List (List Arr2_Int)
  | [], _ => []
  | x :: l, q => nf q x :: frs l (nf q x)
theorem frs_len : ∀ (l : List S_Item) (q : List Arr2_Int), (frs l q).length = l.length
  | [], _ => rfl
  | x :: l, q => by simp [frs, frs_len l]
theorem fr7 (x : S_Item) : ∀ (l v : List Arr2_Int), orders_fronts_7 x l v = .x0 (v ++ l.map (shf x))
  | [], v => by simp [orders_fronts_7]
  | p :: l, v => by
    unfold orders_fronts_7
    rw [fr7 x l, gain_same]
    simp [shf]
theorem getD_snoc {α : Type} [Inhabited α] {l : List α} {x : α} {n : Nat} (h : l.length = n) : (l ++ [x]).getD n default = x := by
  subst h
  rw [List.getD_eq_getElem?_getD, List.getElem?_append_right (Nat.le_refl _)]; simp
theorem fr3a : ∀ (l : List S_Item) (i : Nat) (va : List (GS Arr2_Int)), va.length = i + 1 → orders_fronts_3a l i va = .x0 (va ++ (frs l (va.getD i default).l).map GS.some)
  | [], i, va, _ => by simp [orders_fronts_3a, frs]
  | x :: l, i, va, h => by
    unfold orders_fronts_3a
    rw [fr7]
    simp only []
    rw [fr3a l (i + 1) _ (by simp [h]), getD_snoc h]
    simp [frs, nf, GS.some_l]
/-- What a front is good for: how far its numbers go. -/
structure Good (i : Nat) (q : List Arr2_Int) : Prop where
  ne : 1 ≤ q.length
  le : q.length ≤ 2 ^ i
  inc : q.Pairwise fun a b => a.x0 < b.x0 ∧ a.x1 < b.x1
  bd : ∀ p ∈ q, 0 ≤ p.x0 ∧ p.x0 ≤ 10000 * (i : Int) ∧ 0 ≤ p.x1 ∧ p.x1 ≤ 1073741824 * (i : Int)
theorem good0 : Good 0 [⟨0, 0⟩] := ⟨by simp, by simp, by simp, fun p hp => by rw [List.mem_singleton.1 hp]; simp⟩
theorem rgain_bd {x : S_Item} (h : OkItem x) : 0 ≤ r_Gain x ∧ r_Gain x ≤ 1073741824 := by
  rw [← gain_same, gain_eq h]
  have := gn_bd h
  obtain ⟨a, b, c, _⟩ := h
  omega
theorem shf_eq {i : Nat} {q : List Arr2_Int} {x : S_Item} (h : Good i q) (hi : i ≤ 12) (hx : OkItem x) {p : Arr2_Int} (hp : p ∈ q) : shf x p = ⟨p.x0 + x.cost, p.x1 + r_Gain x⟩ := by
  have hb := h.bd p hp
  have hg := rgain_bd hx
  obtain ⟨_, _, _, c0, c1, _⟩ := hx
  unfold shf
  rw [yi (by omega) (by omega), yi (by omega) (by omega)]
theorem Good.hi {i : Nat} {q : List Arr2_Int} (h : Good i q) : ∀ a b, a ≤ b → b < q.length → (q.getD a default).x0 ≤ (q.getD b default).x0 := by
  intro a b hab hb
  rw [getD_of_lt hb, getD_of_lt (Nat.lt_of_le_of_lt hab hb)]
  rcases Nat.lt_or_eq_of_le hab with hl | rfl
  · exact Int.le_of_lt (List.pairwise_iff_getElem.1 h.inc a b (Nat.lt_of_le_of_lt hab hb) hb hl).1
  · exact Int.le_refl _
theorem Good.hs {i : Nat} {q : List Arr2_Int} {x : S_Item} (h : Good i q) (hi : i ≤ 12) (hx : OkItem x) : ∀ a b, a ≤ b → b < q.length → (shf x (q.getD a default)).x0 ≤ (shf x (q.getD b default)).x0 := by
  intro a b hab hb
  have h1 := h.hi a b hab hb
  have ha := Nat.lt_of_le_of_lt hab hb
  rw [shf_eq h hi hx (p := q.getD a default) (by rw [getD_of_lt ha]; exact List.getElem_mem ha), shf_eq h hi hx (p := q.getD b default) (by rw [getD_of_lt hb]; exact List.getElem_mem hb)]
  show _ + _ ≤ _ + _
  omega
theorem nf_is {i : Nat} {q : List Arr2_Int} {x : S_Item} (h : Good i q) (hi : i < 12) : IsFr (q ++ q.map (shf x)) (nf q x) := by
  have h1 := h.ne
  have h2 := h.le
  have h3 : 2 ^ i ≤ 4096 := pow12 hi
  exact front_is (by simp; omega) (by simp; omega)
theorem nf_len {i : Nat} {q : List Arr2_Int} {x : S_Item} (h : Good i q) : 1 ≤ (nf q x).length ∧ (nf q x).length ≤ 2 ^ (i + 1) := by
  have h1 := h.ne
  have h2 := h.le
  have := zq (l := q ++ q.map (shf x)) (by simp; omega)
  rw [Nat.pow_succ]
  unfold nf
  simp only [List.length_append, List.length_map] at this
  omega
theorem Good.next {i : Nat} {q : List Arr2_Int} {x : S_Item} (h : Good i q) (hi : i < 12) (hx : OkItem x) : Good (i + 1) (nf q x) where
  ne := (nf_len h).1
  le := (nf_len h).2
  inc := (nf_is h hi).inc
  bd := fun p hp => by
    have hg := rgain_bd hx
    rcases List.mem_append.1 ((nf_is h hi).of p hp) with hq | hq
    · have := h.bd p hq; omega
    · obtain ⟨r, hr, rfl⟩ := List.mem_map.1 hq
      have := h.bd r hr
      rw [shf_eq h (by omega) hx hr]
      obtain ⟨_, _, _, c0, c1, _⟩ := hx
      show 0 ≤ r.x0 + x.cost ∧ r.x0 + x.cost ≤ _ ∧ 0 ≤ r.x1 + r_Gain x ∧ r.x1 + r_Gain x ≤ _
      omega
theorem next_eq {i : Nat} {s : GS Arr2_Int} {x : S_Item} (h : Good i s.l) (hi : i < 12) (hx : OkItem x) : r_next s x = GS.some (nf s.l x) := by
  obtain ⟨w, h1, h2⟩ := next_is (front := s) (x := x) (Nat.le_trans h.le (pow12 hi)) h.ne h.hi (h.hs (by omega) hx)
  rw [h1, h2.uniq (nf_is h hi) fun p => Iff.rfl]
theorem rf5a : ∀ (l : List S_Item) (i : Nat) (va : List (GS Arr2_Int)), va.length = i + 1 → Good i (va.getD i default).l → i + l.length ≤ 12 → (∀ x ∈ l, OkItem x) → r_Fronts_5a l i va = .x0 (va ++ (frs l (va.getD i default).l).map GS.some)
  | [], i, va, _, _, _, _ => by simp [r_Fronts_5a, frs]
  | x :: l, i, va, h, hg, hl, ho => by
    simp only [List.length_cons] at hl
    unfold r_Fronts_5a
    rw [next_eq hg (by omega) (ho x (by simp))]
    rw [rf5a l (i + 1) _ (by simp [h]) (by rw [getD_snoc h]; exact hg.next (by omega) (ho x (by simp))) (by omega) (fun y hy => ho y (List.mem_cons_of_mem _ hy)), getD_snoc h]
    simp [frs, GS.some_l]
/-- All fronts of an estate. -/
def frAll (e : S_Estate) : List (List Arr2_Int) := [⟨0, 0⟩] :: frs e.items.l [⟨0, 0⟩]
theorem fronts_eq (e : S_Estate) : orders_fronts e = GS.some ((frAll e).map GS.some) := by
  unfold orders_fronts frAll
  cases hl : e.items.l with
  | nil => rfl
  | cons x l =>
    have h1 : orders_fronts_3 (x :: l) 0 = orders_fronts_3a l 1 [GS.some [⟨0, 0⟩], GS.some (nf [⟨0, 0⟩] x)] := by
      simp only [orders_fronts_3, gain_same]
      rfl
    rw [h1, fr3a l 1 _ rfl]
    rfl
theorem rfronts_eq {e : S_Estate} (h : V e) : r_Fronts e = (GS.some ((frAll e).map GS.some), 0) := by
  unfold r_Fronts frAll
  rw [zI.2 h, cond_true]
  have hit := h.it
  have hn := h.n2
  cases hl : e.items.l with
  | nil => rfl
  | cons x l =>
    rw [hl] at hit hn
    simp only [List.length_cons] at hn
    have hx := hit x (by simp)
    have h1 : r_Fronts_5 (x :: l) 0 = r_Fronts_5a l 1 [GS.some [⟨0, 0⟩], GS.some (nf [⟨0, 0⟩] x)] := by
      simp only [r_Fronts_5]
      rw [next_eq (s := GS.some [⟨0, 0⟩]) (i := 0) good0 (by omega) hx]
      rfl
    have h2 := rf5a l 1 [GS.some [⟨0, 0⟩], GS.some (nf [⟨0, 0⟩] x)] rfl (good0.next (by omega) hx) (by omega) (fun y hy => hit y (List.mem_cons_of_mem _ hy))
    rw [h1, h2]
    rfl
theorem bothFronts (e : S_Estate) : ze e = r_Fronts e := by
  unfold ze
  rw [check_valid, fronts_eq]
  cases hv : zV e with
  | true => rw [rfronts_eq (zI.1 hv)]; rfl
  | false =>
    unfold r_Fronts
    rw [hv]; rfl
/-! ### comparing -/
theorem at_get {α : Type} [Inhabited α] {s : GS α} {i : Nat} : s.at (i : Int) = s.l.getD i default := rfl
theorem frs_good : ∀ (l : List S_Item) (i : Nat) (q : List Arr2_Int), Good i q → i + l.length ≤ 12 → (∀ x ∈ l, OkItem x) → ∀ r ∈ frs l q, r.length ≤ 4096
  | [], i, q, _, _, _, r, hr => by cases hr
  | x :: l, i, q, h, hl, ho, r, hr => by
    simp only [List.length_cons] at hl
    have hg := h.next (x := x) (by omega) (ho x (by simp))
    rcases List.mem_cons.1 hr with rfl | hr
    · exact Nat.le_trans hg.le (Nat.le_trans (Nat.pow_le_pow_right (by omega) (by omega : i + 1 ≤ 12)) (by decide))
    · exact frs_good l (i + 1) _ hg (by omega) (fun y hy => ho y (List.mem_cons_of_mem _ hy)) r hr
theorem fronts_bd (e : S_Estate) : (ze e).1.l.length ≤ 13 ∧ ∀ r ∈ (ze e).1.l, r.l.length ≤ 9223372036854775807 := by
  rw [bothFronts]
  cases hv : zV e with
  | true =>
    have h := zI.1 hv
    have hn := h.n2
    rw [rfronts_eq h]
    refine ⟨by simp [GS.some_l, frAll, frs_len]; omega, fun r hr => ?_⟩
    obtain ⟨q, hq, rfl⟩ := List.mem_map.1 hr
    rcases List.mem_cons.1 hq with rfl | hq
    · simp [GS.some_l]
    · have := frs_good e.items.l 0 _ good0 (by omega) h.it q hq
      rw [GS.some_l]; omega
  | false =>
    have : r_Fronts e = (GS.nil, 80) := by unfold r_Fronts; rw [hv]; rfl
    rw [this]; exact ⟨by simp [GS.nil], fun r hr => by simp [GS.nil] at hr⟩
theorem frs_at : ∀ (l : List S_Item) (k : Nat) (q : List Arr2_Int), Good k q → k + l.length ≤ 12 → (∀ x ∈ l, OkItem x) → ∀ (i : Nat) (x : S_Item), l[i]? = some x →
    ∃ a, (q :: frs l q)[i]? = some a ∧ (q :: frs l q)[i + 1]? = some (nf a x) ∧ Good (k + i) a
  | [], _, _, _, _, _, i, x, h => by simp at h
  | y :: l, k, q, hg, hl, ho, 0, x, h => by
    simp at h; subst h
    exact ⟨q, rfl, rfl, hg⟩
  | y :: l, k, q, hg, hl, ho, i + 1, x, h => by
    simp only [List.length_cons] at hl
    obtain ⟨a, h1, h2, h3⟩ := frs_at l (k + 1) (nf q y) (hg.next (by omega) (ho y (by simp))) (by omega) (fun z hz => ho z (List.mem_cons_of_mem _ hz)) i x (by simpa using h)
    exact ⟨a, h1, h2, by rw [show k + (i + 1) = k + 1 + i from by omega]; exact h3⟩
end Go.VS

/-
  Fronts, plainly: the last front is the front of all lists of items. (A text of this claim's own; nothing of it is trusted.)
-/
namespace Go.VS
open Go
set_option maxHeartbeats 0
/-- What items cost. -/
def cs (e : S_Estate) (l : List Int) : List Int := l.map fun i => (e.items.at i).cost
def pr (e : S_Estate) (l : List Int) : Arr2_Int := ⟨tot (cs e l), tot (gs e l)⟩
theorem tot_snoc : ∀ (l : List Int) (x : Int), tot (l ++ [x]) = tot l + x
  | [], x => by simp [tot]
  | y :: l, x => by
    have := tot_snoc l x
    simp only [List.cons_append, tot, this]
    omega
theorem inc_more {p n n' : Int} {l : List Int} (h : inc p n l) (hn : n ≤ n') : inc p n' l := by
  induction l generalizing p with
  | nil => trivial
  | cons x l ih => exact ⟨h.1, h.2.1, by have := h.2.2.1; omega, ih h.2.2.2⟩
theorem inc_snoc {p k : Int} {l : List Int} (h : inc p k l) (hp : p < k) (hk : 0 ≤ k) : inc p (k + 1) (l ++ [k]) := by
  induction l generalizing p with
  | nil => exact ⟨by omega, by omega, by omega, trivial⟩
  | cons x l ih => exact ⟨h.1, h.2.1, by have := h.2.2.1; omega, ih h.2.2.2 (by have := h.2.2.1; omega)⟩
theorem inc_cut {p k : Int} {l : List Int} (h : inc p (k + 1) l) : inc p k l ∨ ∃ l', l = l' ++ [k] ∧ inc p k l' := by
  induction l generalizing p with
  | nil => exact .inl trivial
  | cons x l ih =>
    rcases ih h.2.2.2 with h1 | ⟨l', rfl, h1⟩
    · by_cases hx : x < k
      · exact .inl ⟨h.1, h.2.1, hx, h1⟩
      · have hx : x = k := by have := h.2.2.1; omega
        subst hx
        cases l with
        | nil => exact .inr ⟨[], rfl, trivial⟩
        | cons y l => have := h1.1; have := h1.2.2.1; omega
    · have hx : x < k := by
        have h2 := h.2.2.2
        cases l' with
        | nil => exact h2.1
        | cons y l' => have := h2.1; have := h1.2.2.1; omega
      exact .inr ⟨x :: l', rfl, h.1, h.2.1, hx, h1⟩
theorem pr_snoc (e : S_Estate) (l : List Int) (k : Int) : pr e (l ++ [k]) = ⟨(pr e l).x0 + (e.items.at k).cost, (pr e l).x1 + gn (e.items.at k)⟩ := by
  unfold pr cs gs
  simp only [List.map_append, List.map_cons, List.map_nil, tot_snoc]
/-- A front after one more item, of all that are had. -/
theorem IsFr.step {k : Nat} {S q : List Arr2_Int} {x : S_Item} (h : IsFr S q) (hg : Good k q) (hk : k < 12) (hx : OkItem x) (hb : ∀ p ∈ S, shf x p = ⟨p.x0 + x.cost, p.x1 + r_Gain x⟩) : IsFr (S ++ S.map (shf x)) (nf q x) where
  inc := (nf_is hg hk).inc
  of := fun p hp => by
    rcases List.mem_append.1 ((nf_is hg hk).of p hp) with h1 | h1
    · exact List.mem_append_left _ (h.of p h1)
    · obtain ⟨r, hr, rfl⟩ := List.mem_map.1 h1
      exact List.mem_append_right _ (List.mem_map.2 ⟨r, h.of r hr, rfl⟩)
  dom := fun p hp => by
    rcases List.mem_append.1 hp with h1 | h1
    · obtain ⟨r, hr, r0, r1⟩ := h.dom p h1
      obtain ⟨s, hs, s0, s1⟩ := (nf_is hg hk (x := x)).dom r (List.mem_append_left _ hr)
      exact ⟨s, hs, by omega, by omega⟩
    · obtain ⟨p', hp', rfl⟩ := List.mem_map.1 h1
      obtain ⟨r, hr, r0, r1⟩ := h.dom p' hp'
      obtain ⟨s, hs, s0, s1⟩ := (nf_is hg hk (x := x)).dom (shf x r) (List.mem_append_right _ (List.mem_map.2 ⟨r, hr, rfl⟩))
      rw [shf_eq hg (by omega) hx hr] at s0 s1
      rw [hb p' hp']
      exact ⟨s, hs, by show _ ≤ p'.x0 + x.cost; simp only at s0; omega, by show p'.x1 + r_Gain x ≤ _; simp only at s1; omega⟩
/-- The front of all lists of the first items. -/
theorem front_all {e : S_Estate} (h : V e) : ∀ k, k ≤ e.items.l.length → ∃ S q, (frAll e)[k]? = some q ∧ Good k q ∧ IsFr S q ∧ (∀ p ∈ S, 0 ≤ p.x0 ∧ p.x0 ≤ 10000 * (k : Int) ∧ 0 ≤ p.x1 ∧ p.x1 ≤ 1073741824 * (k : Int)) ∧ ∀ p, p ∈ S ↔ ∃ l, inc (-1) (k : Int) l ∧ p = pr e l
  | 0, _ => by
    refine ⟨[⟨0, 0⟩], [⟨0, 0⟩], rfl, good0, isFr_one _, fun p hp => by rw [List.mem_singleton.1 hp]; simp, fun p => ?_⟩
    constructor
    · intro hp
      exact ⟨[], trivial, by rw [List.mem_singleton.1 hp]; rfl⟩
    · rintro ⟨l, hl, rfl⟩
      cases l with
      | nil => exact List.mem_singleton.2 rfl
      | cons x l => have := hl.2.1; have := hl.2.2.1; omega
  | k + 1, hk => by
    have hn := h.n2
    obtain ⟨S, q, h1, h2, h3, h4, h5⟩ := front_all h k (by omega)
    have hxi : e.items.l[k]? = some (e.items.l[k]'(by omega)) := List.getElem?_eq_getElem (by omega)
    have hat : e.items.at (k : Int) = e.items.l[k]'(by omega) := by rw [at_get, getD_of_lt (by omega)]
    generalize hxe : e.items.l[k]'(by omega) = x at hxi hat
    obtain ⟨a, a1, a2, a3⟩ := frs_at e.items.l 0 [⟨0, 0⟩] good0 (by omega) h.it k x hxi
    have a1' : (frAll e)[k]? = some a := a1
    rw [h1] at a1'
    obtain rfl : q = a := Option.some.inj a1'
    have hx : OkItem x := h.it x (List.mem_of_getElem? hxi)
    have hg := rgain_bd hx
    have hs : ∀ p ∈ S, shf x p = ⟨p.x0 + x.cost, p.x1 + r_Gain x⟩ := fun p hp => by
      have := h4 p hp
      obtain ⟨_, _, _, c0, c1, _⟩ := hx
      unfold shf
      rw [yi (by omega) (by omega), yi (by omega) (by omega)]
    refine ⟨S ++ S.map (shf x), nf q x, a2, h2.next (by omega) hx, h3.step h2 (by omega) hx hs, fun p hp => ?_, fun p => ?_⟩
    · rcases List.mem_append.1 hp with hp | hp
      · have := h4 p hp; omega
      · obtain ⟨r, hr, rfl⟩ := List.mem_map.1 hp
        have := h4 r hr
        rw [hs r hr]
        obtain ⟨_, _, _, c0, c1, _⟩ := hx
        show 0 ≤ r.x0 + x.cost ∧ r.x0 + x.cost ≤ _ ∧ 0 ≤ r.x1 + r_Gain x ∧ r.x1 + r_Gain x ≤ _
        omega
    · have hgn : gn x = r_Gain x := by rw [← gain_same, gain_eq hx]
      constructor
      · intro hp
        rcases List.mem_append.1 hp with hp | hp
        · obtain ⟨l, hl, rfl⟩ := (h5 p).1 hp
          exact ⟨l, inc_more hl (by omega), rfl⟩
        · obtain ⟨r, hr, rfl⟩ := List.mem_map.1 hp
          obtain ⟨l, hl, e1⟩ := (h5 r).1 hr
          refine ⟨l ++ [(k : Int)], inc_snoc hl (by omega) (by omega), ?_⟩
          rw [hs r hr, pr_snoc, hat, hgn, e1]
      · rintro ⟨l, hl, rfl⟩
        rcases inc_cut (k := (k : Int)) hl with hl1 | ⟨l', rfl, hl1⟩
        · exact List.mem_append_left _ ((h5 _).2 ⟨l, hl1, rfl⟩)
        · have hr := (h5 _).2 ⟨l', hl1, rfl⟩
          refine List.mem_append_right _ (List.mem_map.2 ⟨pr e l', hr, ?_⟩)
          rw [hs _ hr, pr_snoc, hat, hgn]
end Go.VS

/-
  Orders: lists of items, by bits; the least one that fulfils something. (A text of this claim's own; nothing of it is trusted.)
-/
namespace Go.VS
set_option maxHeartbeats 0
def zU (m : Nat) : Nat → Nat → List Int
  | 0, _ => []
  | r + 1, i => bif m.testBit i then ((i : Nat) : Int) :: zU m r (i + 1) else zU m r (i + 1)
def chosen (n m : Nat) : List Int := zU m n 0
theorem bits_congr {m m' : Nat} : ∀ (r i : Nat), (∀ j, i ≤ j → m.testBit j = m'.testBit j) → zU m r i = zU m' r i
  | 0, _, _ => rfl
  | r + 1, i, h => by
    unfold zU
    rw [h i (Nat.le_refl _), bits_congr r (i + 1) fun j hj => h j (by omega)]
theorem inc_weak {p p' n : Int} {l : List Int} (h : inc p' n l) (hp : p ≤ p') : inc p n l := by
  cases l with
  | nil => trivial
  | cons x l => exact ⟨by have := h.1; omega, h.2.1, h.2.2.1, h.2.2.2⟩
theorem bits_inc (m : Nat) : ∀ (r i : Nat), inc ((i : Int) - 1) ((i + r : Nat) : Int) (zU m r i)
  | 0, _ => trivial
  | r + 1, i => by
    have ih := bits_inc m r (i + 1)
    rw [show ((i + 1 : Nat) : Int) - 1 = (i : Int) by omega, show i + 1 + r = i + (r + 1) by omega] at ih
    unfold zU
    cases m.testBit i with
    | true => exact ⟨by omega, by omega, by omega, ih⟩
    | false => exact inc_weak ih (by omega)
theorem chosen_inc (n m : Nat) : inc (-1) (n : Int) (chosen n m) := by
  have := bits_inc m n 0
  rwa [show 0 + n = n by omega] at this
theorem bits_all : ∀ (r i : Nat) (l : List Int), inc ((i : Int) - 1) ((i + r : Nat) : Int) l → ∃ m, m < 2 ^ (i + r) ∧ (∀ j, j < i → m.testBit j = false) ∧ zU m r i = l
  | 0, i, l, h => by
    cases l with
    | nil => exact ⟨0, Nat.two_pow_pos _, fun j _ => Nat.zero_testBit j, rfl⟩
    | cons x l => have := h.1; have := h.2.2.1; omega
  | r + 1, i, l, h => by
    have key : ∀ l', inc (i : Int) ((i + (r + 1) : Nat) : Int) l' → ∃ m, m < 2 ^ (i + (r + 1)) ∧ (∀ j, j < i + 1 → m.testBit j = false) ∧ zU m r (i + 1) = l' := fun l' h' => by
      have := bits_all r (i + 1) l' (by rw [show ((i + 1 : Nat) : Int) - 1 = (i : Int) by omega, show i + 1 + r = i + (r + 1) by omega]; exact h')
      rwa [show i + 1 + r = i + (r + 1) by omega] at this
    cases l with
    | nil =>
      obtain ⟨m, h1, h2, h3⟩ := key [] trivial
      refine ⟨m, h1, fun j hj => h2 j (by omega), ?_⟩
      unfold zU
      rw [h2 i (by omega)]
      exact h3
    | cons x l =>
      have hx := h.1
      by_cases hi : x = (i : Int)
      · obtain ⟨m, h1, h2, h3⟩ := key l (by rw [← hi]; exact h.2.2.2)
        refine ⟨m ||| 2 ^ i, Nat.or_lt_two_pow h1 (Nat.pow_lt_pow_right (by omega) (by omega)), fun j hj => ?_, ?_⟩
        · rw [Nat.testBit_or, h2 j (by omega), Nat.testBit_two_pow]
          simp; omega
        · unfold zU
          have hb : (m ||| 2 ^ i).testBit i = true := by rw [Nat.testBit_or, Nat.testBit_two_pow]; simp
          rw [hb, bits_congr (m' := m) r (i + 1) fun j hj => ?_, h3, hi]
          · rfl
          · rw [Nat.testBit_or, Nat.testBit_two_pow]
            have : decide (i = j) = false := decide_eq_false (by omega)
            rw [this, Bool.or_false]
      · obtain ⟨m, h1, h2, h3⟩ := key (x :: l) ⟨by omega, h.2.1, h.2.2.1, h.2.2.2⟩
        refine ⟨m, h1, fun j hj => h2 j (by omega), ?_⟩
        unfold zU
        rw [h2 i (by omega)]
        exact h3
theorem bits_ne {m n : Nat} (h : m < 2 ^ n) (h1 : 1 ≤ m) : chosen n m ≠ [] := by
  have key : ∀ (r i : Nat), zU m r i = [] → ∀ k, i ≤ k → k < i + r → m.testBit k = false := by
    intro r
    induction r with
    | zero => intro i _ k _ _; omega
    | succ r ih =>
      intro i hb k hk hk'
      unfold zU at hb
      cases hc : m.testBit i with
      | true => rw [hc] at hb; cases hb
      | false =>
        rw [hc] at hb
        by_cases hki : k = i
        · rw [hki]; exact hc
        · exact ih (i + 1) hb k (by omega) (by omega)
  intro hb
  have := no_bits h fun k hk => key n 0 hb k (by omega) (by omega)
  omega
/-! ### the least one -/
def stp (P : List Int → Bool) (lt : List Int → List Int → Bool) (b : Option (List Int)) (l : List Int) : Option (List Int) := match b with
  | none => bif P l then some l else none
  | some c => bif lt l c then (bif P l then some l else some c) else some c
def goC (P : List Int → Bool) (lt : List Int → List Int → Bool) (n : Nat) : Nat → Nat → Option (List Int) → Option (List Int)
  | 0, _, b => b
  | r + 1, i, b => goC P lt n r (i + 1) (stp P lt b (chosen n i))
section
variable {P : List Int → Bool} {lt : List Int → List Int → Bool} {n : Nat}
theorem goC_keep : ∀ (r i : Nat) (c : List Int), ∃ w, goC P lt n r i (some c) = some w
  | 0, _, c => ⟨c, rfl⟩
  | r + 1, i, c => by
    unfold goC stp
    dsimp only
    cases lt (chosen n i) c <;> cases P (chosen n i) <;> exact goC_keep r (i + 1) _
theorem goC_some : ∀ (r i : Nat) (b : Option (List Int)) (w : List Int), goC P lt n r i b = some w → b = some w ∨ ∃ k, i ≤ k ∧ k < i + r ∧ w = chosen n k ∧ P w = true
  | 0, _, _, _, h => .inl h
  | r + 1, i, b, w, h => by
    unfold goC at h
    rcases goC_some r (i + 1) _ w h with h1 | ⟨k, h1, h2, h3⟩
    · unfold stp at h1
      cases b with
      | none =>
        cases hP : P (chosen n i) with
        | true => simp only [hP, cond_true, Option.some.injEq] at h1; subst h1; exact .inr ⟨i, Nat.le_refl _, by omega, rfl, hP⟩
        | false => simp only [hP, cond_false] at h1; cases h1
      | some c =>
        cases hl : lt (chosen n i) c with
        | false => simp only [hl, cond_false] at h1; exact .inl h1
        | true =>
          cases hP : P (chosen n i) with
          | true => simp only [hl, hP, cond_true, Option.some.injEq] at h1; subst h1; exact .inr ⟨i, Nat.le_refl _, by omega, rfl, hP⟩
          | false => simp only [hl, hP, cond_true, cond_false] at h1; exact .inl h1
    · exact .inr ⟨k, by omega, by omega, h3⟩
theorem goC_any : ∀ (r i : Nat) (b : Option (List Int)) (k : Nat), i ≤ k → k < i + r → P (chosen n k) = true → ∃ w, goC P lt n r i b = some w
  | 0, _, _, _, _, _, _ => by omega
  | r + 1, i, b, k, h1, h2, h3 => by
    unfold goC
    by_cases hk : k = i
    · subst hk
      cases b with
      | none => unfold stp; simp only [h3, cond_true]; exact goC_keep _ _ _
      | some c => unfold stp; dsimp only; cases lt (chosen n k) c <;> cases P (chosen n k) <;> exact goC_keep _ _ _
    · exact goC_any r (i + 1) _ k (by omega) (by omega) h3
theorem goC_le {cost : List Int → Int} (h1 : ∀ l c, lt l c = true → cost l ≤ cost c) (h2 : ∀ l c, lt l c = false → cost c ≤ cost l) : ∀ (r i : Nat) (b : Option (List Int)) (w : List Int), goC P lt n r i b = some w →
    (∀ c, b = some c → cost w ≤ cost c) ∧ ∀ k, i ≤ k → k < i + r → P (chosen n k) = true → cost w ≤ cost (chosen n k)
  | 0, i, b, w, h => ⟨fun c hc => by rw [hc] at h; cases h; exact Int.le_refl _, fun k a b => by omega⟩
  | r + 1, i, b, w, h => by
    unfold goC at h
    obtain ⟨q1, q2⟩ := goC_le h1 h2 r (i + 1) _ w h
    cases b with
    | none =>
      refine ⟨fun c hc => (by cases hc), fun k a b hP => ?_⟩
      by_cases hk : k = i
      · subst hk
        refine q1 _ ?_
        unfold stp
        simp only [hP, cond_true]
      · exact q2 k (by omega) (by omega) hP
    | some c =>
      cases hl : lt (chosen n i) c with
      | false =>
        have e : stp P lt (some c) (chosen n i) = some c := by unfold stp; simp only [hl, cond_false]
        have := q1 c e
        refine ⟨fun c' hc => by cases hc; exact this, fun k a b hP => ?_⟩
        by_cases hk : k = i
        · subst hk; have := h2 _ _ hl; omega
        · exact q2 k (by omega) (by omega) hP
      | true =>
        have hle := h1 _ _ hl
        cases hP : P (chosen n i) with
        | true =>
          have e : stp P lt (some c) (chosen n i) = some (chosen n i) := by unfold stp; simp only [hl, hP, cond_true]
          have := q1 _ e
          refine ⟨fun c' hc => by cases hc; omega, fun k a b hP => ?_⟩
          by_cases hk : k = i
          · subst hk; exact this
          · exact q2 k (by omega) (by omega) hP
        | false =>
          have e : stp P lt (some c) (chosen n i) = some c := by unfold stp; simp only [hl, hP, cond_true, cond_false]
          have := q1 _ e
          refine ⟨fun c' hc => by cases hc; omega, fun k a b hP' => ?_⟩
          by_cases hk : k = i
          · subst hk; rw [hP] at hP'; cases hP'
          · exact q2 k (by omega) (by omega) hP'
end
end Go.VS

/-
  Steps, plainly: the front of (cost, - what is left) of all lists of items. (A text of this claim's own; nothing of it is trusted.)
-/
namespace Go.VS
open Go
set_option maxHeartbeats 0
theorem auS_a : ∀ (l v : List Arr2_Int), ∃ w, au70_2_3_4a l v = .x0 w ∧ au70_3_4_4a l v = .x0 w
  | [], v => ⟨v, rfl, rfl⟩
  | x :: l, v => by
    obtain ⟨w1, a1, b1⟩ := auS_a l (v ++ [x])
    obtain ⟨w2, a2, b2⟩ := auS_a l v
    unfold au70_2_3_4a au70_3_4_4a
    cases (((v.length : Nat) : Int) == 0) with
    | true => exact ⟨w1, a1, b1⟩
    | false =>
      cases decide (x.x1 > ((v.getD ((w64 (((v.length : Nat) : Int) - 1)).toNat) default).x1)) with
      | true => exact ⟨w1, a1, b1⟩
      | false => exact ⟨w2, a2, b2⟩
theorem auS (l : List Arr2_Int) : yc l = y9 l := by
  unfold yc y9
  cases srtA l with
  | nil => rfl
  | cons x s =>
    obtain ⟨w, a, b⟩ := auS_a s [x]
    have h1 : au70_2_3_4 (x :: s) = .x0 w := a
    have h2 : au70_3_4_4 (x :: s) = .x0 w := b
    rw [h1, h2]
theorem s5a {m : Nat} (hm : m < 4611686018427387904) : ∀ (l : List S_Item) (i : Nat) (v : List Int), i + l.length ≤ 64 → ls_5a ((m : Nat) : Int) l i v = .x0 (v ++ zU m l.length i)
  | [], i, v, _ => by simp [ls_5a, zU]
  | x :: l, i, v, h => by
    simp only [List.length_cons] at h ⊢
    unfold ls_5a zU
    rw [bt_eq hm (by omega), s5a hm l (i + 1) _ (by omega), s5a hm l (i + 1) _ (by omega)]
    cases m.testBit i <;> simp
theorem s5 {m : Nat} (hm : m < 4611686018427387904) : ∀ (l : List S_Item) (i : Nat), i + l.length ≤ 64 → (zU m l.length i = [] ∧ ls_5 ((m : Nat) : Int) l i = .x1) ∨ ls_5 ((m : Nat) : Int) l i = .x0 (zU m l.length i)
  | [], i, _ => .inl ⟨rfl, rfl⟩
  | x :: l, i, h => by
    simp only [List.length_cons] at h ⊢
    have k := s5 hm l (i + 1) (by omega)
    unfold ls_5 zU
    rw [bt_eq hm (by omega), s5a hm l (i + 1) _ (by omega)]
    cases m.testBit i with
    | true => exact .inr rfl
    | false => exact k
theorem s5pa {m : Nat} (hm : m < 4611686018427387904) : ∀ (l : List S_Item) (i : Nat) (v : List Int), i + l.length ≤ 64 → ls_5p1a ((m : Nat) : Int) l i v = .x0 (v ++ zU m l.length i)
  | [], i, v, _ => by simp [ls_5p1a, zU]
  | x :: l, i, v, h => by
    simp only [List.length_cons] at h ⊢
    unfold ls_5p1a zU
    rw [bt_eq hm (by omega), s5pa hm l (i + 1) _ (by omega), s5pa hm l (i + 1) _ (by omega)]
    cases m.testBit i <;> simp
theorem s5p {m : Nat} (hm : m < 4611686018427387904) : ∀ (l : List S_Item) (i : Nat), i + l.length ≤ 64 → (zU m l.length i = [] ∧ ls_5p1 ((m : Nat) : Int) l i = .x1) ∨ ls_5p1 ((m : Nat) : Int) l i = .x0 (zU m l.length i)
  | [], i, _ => .inl ⟨rfl, rfl⟩
  | x :: l, i, h => by
    simp only [List.length_cons] at h ⊢
    have k := s5p hm l (i + 1) (by omega)
    unfold ls_5p1 zU
    rw [bt_eq hm (by omega), s5pa hm l (i + 1) _ (by omega)]
    cases m.testBit i with
    | true => exact .inr rfl
    | false => exact k
/-- The pair of a list of items. -/
def prS (e : S_Estate) (l : List Int) : Arr2_Int := ⟨zp e (GS.some l), w64 (0 - zw e (GS.some l))⟩
theorem prS_nil (e : S_Estate) : (⟨zp e GS.nil, w64 (0 - zw e GS.nil)⟩ : Arr2_Int) = prS e [] := rfl
theorem s1a {e : S_Estate} (hn : e.items.l.length ≤ 12) : ∀ (r i : Nat) (v : List Arr2_Int), i + r ≤ 2 ^ e.items.l.length → ls_1a e r i v = .x0 (i + r) (v ++ (List.range' i r).map fun m => prS e (chosen e.items.l.length m))
  | 0, i, v, _ => by simp [ls_1a]
  | r + 1, i, v, h => by
    have hp : 2 ^ e.items.l.length ≤ 2 ^ 12 := Nat.pow_le_pow_right (by omega) hn
    unfold ls_1a
    rcases s5 (m := i) (by omega) e.items.l 0 (by omega) with ⟨h1, h2⟩ | h2
    · rw [h2]
      simp only []
      rw [s1a hn r (i + 1) _ (by omega), prS_nil]
      have : chosen e.items.l.length i = [] := h1
      simp only [List.range'_succ, List.map_cons, this]
      rw [show i + 1 + r = i + (r + 1) from by omega]
      simp
    · rw [h2]
      simp only []
      rw [s1a hn r (i + 1) _ (by omega)]
      have : (⟨zp e (GS.some (zU i e.items.l.length 0)), w64 (0 - zw e (GS.some (zU i e.items.l.length 0)))⟩ : Arr2_Int) = prS e (chosen e.items.l.length i) := rfl
      rw [this]
      simp only [List.range'_succ, List.map_cons]
      rw [show i + 1 + r = i + (r + 1) from by omega]
      simp
/-- All pairs, in the lists' order. -/
def allS (e : S_Estate) : List Arr2_Int := (List.range' 0 (2 ^ e.items.l.length)).map fun m => prS e (chosen e.items.l.length m)
theorem s1 {e : S_Estate} (hn : e.items.l.length ≤ 12) : ls_1 e (2 ^ e.items.l.length) 0 = .x0 (2 ^ e.items.l.length) (allS e) := by
  have hp : 2 ^ e.items.l.length ≤ 2 ^ 12 := Nat.pow_le_pow_right (by omega) hn
  have hpos := Nat.two_pow_pos e.items.l.length
  obtain ⟨r, hr⟩ : ∃ r, 2 ^ e.items.l.length = r + 1 := ⟨2 ^ e.items.l.length - 1, by omega⟩
  unfold allS
  rw [hr]
  simp only [ls_1]
  rcases s5p (m := 0) (by omega) e.items.l 0 (by omega) with ⟨h1, h2⟩ | h2
  · rw [h2]
    simp only []
    rw [s1a hn r 1 _ (by omega), prS_nil]
    have : chosen e.items.l.length 0 = [] := h1
    simp only [List.range'_succ, List.map_cons, this]
    rw [Nat.add_comm 1 r]
    simp
  · rw [h2]
    simp only []
    rw [s1a hn r 1 _ (by omega)]
    have : (⟨zp e (GS.some (zU 0 e.items.l.length 0)), w64 (0 - zw e (GS.some (zU 0 e.items.l.length 0)))⟩ : Arr2_Int) = prS e (chosen e.items.l.length 0) := rfl
    rw [this]
    simp only [List.range'_succ, List.map_cons]
    rw [Nat.add_comm 1 r]
    simp
theorem cost3 {e : S_Estate} (h : V e) : ∀ (l : List Int) (v : Int), (∀ i ∈ l, 0 ≤ i ∧ i < (e.items.l.length : Int)) → 0 ≤ v → v + 10000 * (l.length : Int) ≤ 1000000000 → orders_cost_3 e l v = .x0 (v + tot (cs e l)) ∧ 0 ≤ tot (cs e l) ∧ tot (cs e l) ≤ 10000 * (l.length : Int)
  | [], v, _, _, _ => by simp [orders_cost_3, cs, tot]
  | x :: l, v, hi, h0, h1 => by
    simp only [List.length_cons] at h1 ⊢
    have hx := h.it _ (at_mem (hi x (by simp)).1 (hi x (by simp)).2)
    obtain ⟨_, _, _, c0, c1, _⟩ := hx
    obtain ⟨k1, k2, k3⟩ := cost3 h l (v + (e.items.at x).cost) (fun i hm => hi i (List.mem_cons_of_mem _ hm)) (by omega) (by omega)
    unfold orders_cost_3
    rw [yi (by omega) (by omega), k1]
    simp only [cs, List.map_cons, tot]
    simp only [cs] at k2 k3
    refine ⟨?_, by omega, by omega⟩
    congr 1; omega
theorem cost_eq {e : S_Estate} (h : V e) {l : List Int} (hi : inc (-1) (e.items.l.length : Int) l) : zp e (GS.some l) = tot (cs e l) ∧ 0 ≤ tot (cs e l) ∧ tot (cs e l) ≤ 120000 := by
  have hl := inc_short h hi
  obtain ⟨k1, k2, k3⟩ := cost3 h l 0 (inc_mem hi) (by omega) (by omega)
  unfold zp
  have e1 : (GS.some l).l = l := rfl
  rw [e1, k1]
  exact ⟨by simp, k2, by omega⟩
theorem worstP {e : S_Estate} (h : V e) {l : List Int} (hi : inc (-1) (e.items.l.length : Int) l) : zw e (GS.some l) = Wg e (tot (gs e l)) ∧ 0 ≤ Wg e (tot (gs e l)) ∧ Wg e (tot (gs e l)) ≤ 12884901888 := by
  have hl := inc_short h hi
  have hr := gs_range h hi
  have hb := sums_bd h.sp
  have hn := h.n2
  have hw := worst_eq (items := GS.some l) h (by rw [GS.some_l]; omega) hi
  have h1 : zG e (GS.some l) = (zw e (GS.some l), 0) := by
    unfold zG
    rw [right_of (by rw [GS.some_l]; omega) h hi]; rfl
  rw [h1] at hw
  have h2 : zw e (GS.some l) = Wg e (tot (gs e l)) := congrArg Prod.fst hw
  refine ⟨h2, Wg_nonneg h hr.1 hr.2, ?_⟩
  rw [Wg_eq h hr.1 hr.2]
  omega
theorem prS_eq {e : S_Estate} (h : V e) {l : List Int} (hi : inc (-1) (e.items.l.length : Int) l) : prS e l = ⟨tot (cs e l), - Wg e (tot (gs e l))⟩ := by
  obtain ⟨h1, h2, h3⟩ := worstP h hi
  unfold prS
  rw [(cost_eq h hi).1, h1, yi (by omega) (by omega)]
  simp
theorem allS_mem {e : S_Estate} (h : V e) (p : Arr2_Int) : p ∈ allS e ↔ ∃ l, inc (-1) (e.items.l.length : Int) l ∧ p = ⟨tot (cs e l), - Wg e (tot (gs e l))⟩ := by
  unfold allS
  rw [List.mem_map]
  constructor
  · rintro ⟨m, _, rfl⟩
    exact ⟨_, chosen_inc _ _, prS_eq h (chosen_inc _ _)⟩
  · rintro ⟨l, hl, rfl⟩
    obtain ⟨m, h1, _, h3⟩ := bits_all e.items.l.length 0 l (by simpa using hl)
    refine ⟨m, List.mem_range'_1.2 ⟨by omega, by simpa using h1⟩, ?_⟩
    have : chosen e.items.l.length m = l := h3
    rw [this, prS_eq h hl]
def ng (p : Arr2_Int) : Arr2_Int := ⟨p.x0, w64 (0 - p.x1)⟩
theorem st10 : ∀ (l : List Arr2_Int) (i : Nat) (v : List Arr2_Int), v.drop i = l → orders_Steps_10 l i v = .x0 (v.take i ++ l.map ng)
  | [], i, v, h => by
    have : v.take i = v := List.take_of_length_le (List.drop_eq_nil_iff.1 h)
    simp [orders_Steps_10, this]
  | x :: l, i, v, h => by
    have hlt := zt h
    have hx : v.getD i default = x := by rw [List.getD_eq_getElem?_getD, ← List.head?_drop, h]; rfl
    unfold orders_Steps_10
    rw [hx]
    have hd : (v.set i ⟨x.x0, w64 (0 - x.x1)⟩).drop (i + 1) = l := by
      rw [List.drop_set_of_lt (by omega), ← List.drop_drop, h]; rfl
    rw [st10 l (i + 1) _ hd]
    congr 1
    rw [List.take_add_one, List.take_set_of_le (Nat.le_refl _), List.getElem?_set_self hlt]
    simp [ng]
theorem steps_eq {e : S_Estate} (h : V e) : ∃ v, z6 e = (GS.some (v.map ng), 0) ∧ IsFr (allS e) v := by
  have hn := h.n2
  have hp : 2 ^ e.items.l.length ≤ 2 ^ 12 := Nat.pow_le_pow_right (by omega) hn
  have hpos := Nat.two_pow_pos e.items.l.length
  have hlen : (allS e).length = 2 ^ e.items.l.length := by simp [allS]
  refine ⟨yc (allS e), ?_, by rw [auS]; exact front_is (by omega) (by omega)⟩
  unfold z6
  rw [check_valid, zI.2 h]
  have e1 : (w64 (1 * 2 ^ (min (((e.items.l.length : Nat) : Int)).toNat 64)) - 0).toNat = 2 ^ e.items.l.length := by
    rw [shl_one (by omega) (by omega), Int.toNat_natCast]; omega
  rw [e1, s1 hn]
  simp only [if_true, bne_self_eq_false, cond_false]
  rw [st10 (yc (allS e)) 0 (yc (allS e)) rfl]
  simp
end Go.VS

/-
  Orders: what leastOf comes to. (A text of this claim's own; nothing of it is trusted.)
-/
namespace Go.VS
set_option maxHeartbeats 0
/-- What is asked of a list; is one less than another one. -/
def okLB (e : S_Estate) (width : Int) (l : List Int) : Bool := zF (GS.some l) e width
def ltI (e : S_Estate) (l c : List Int) : Bool := decide (zH (GS.some l) (GS.some c) e < 0)
theorem cmp2_congr {b b' : GS Int} (h : b.l = b'.l) : ∀ (l : List Int) (i : Nat), slices_Compare_2 b l i = slices_Compare_2 b' l i
  | [], _ => rfl
  | x :: l, i => by
    unfold slices_Compare_2
    have e1 : b.at ((i : Nat) : Int) = b'.at ((i : Nat) : Int) := by unfold GS.at; rw [h]
    rw [h, e1, cmp2_congr h l (i + 1)]
theorem cheap_nil (a : GS Int) (e : S_Estate) : zH a GS.nil e = zH a (GS.some []) e := by
  unfold zH slices_Compare
  rw [cmp2_congr (b := GS.nil) (b' := GS.some []) rfl a.l 0]
  cases slices_Compare_2 (GS.some []) a.l 0 <;> rfl
theorem l5a_B (w : List Int) {m : Nat} (hm : m < 4611686018427387904) : ∀ (r i : Nat) (v u : List Int), i + r ≤ 64 → lsb_5a w ((m : Nat) : Int) r i v u = .x0 (i + r) (v ++ zU m r i) u
  | 0, i, v, u, _ => by simp [lsb_5a, zU]
  | r + 1, i, v, u, h => by
    unfold lsb_5a zU
    rw [bt_eq hm (by omega)]
    cases m.testBit i with
    | true => simp only [cond_true]; rw [l5a_B w hm r (i + 1) _ _ (by omega)]; simp; omega
    | false => simp only [cond_false]; rw [l5a_B w hm r (i + 1) _ _ (by omega)]; simp; omega
theorem l5_B (w : List Int) {m : Nat} (hm : m < 4611686018427387904) : ∀ (r i : Nat), i + r ≤ 64 → (zU m r i = [] → lsb_5 w ((m : Nat) : Int) r i = .x1 (i + r)) ∧ (zU m r i ≠ [] → lsb_5 w ((m : Nat) : Int) r i = .x0 (i + r) (zU m r i) w)
  | 0, i, _ => ⟨fun _ => rfl, fun h => absurd rfl h⟩
  | r + 1, i, h => by
    unfold lsb_5 zU
    rw [bt_eq hm (by omega)]
    cases m.testBit i with
    | true => simp only [cond_true]; rw [l5a_B w hm r (i + 1) _ _ (by omega)]; simp; omega
    | false =>
      have ih := l5_B w hm r (i + 1) (by omega)
      rw [show i + 1 + r = i + (r + 1) by omega] at ih
      simp only [cond_false]
      exact ih
theorem l5pa_B {m : Nat} (hm : m < 4611686018427387904) : ∀ (r i : Nat) (v : List Int), i + r ≤ 64 → lsb_5p1a ((m : Nat) : Int) r i v = .x0 (i + r) (v ++ zU m r i)
  | 0, i, v, _ => by simp [lsb_5p1a, zU]
  | r + 1, i, v, h => by
    unfold lsb_5p1a zU
    rw [bt_eq hm (by omega)]
    cases m.testBit i with
    | true => simp only [cond_true]; rw [l5pa_B hm r (i + 1) _ (by omega)]; simp; omega
    | false => simp only [cond_false]; rw [l5pa_B hm r (i + 1) _ (by omega)]; simp; omega
theorem l5p_B {m : Nat} (hm : m < 4611686018427387904) : ∀ (r i : Nat), i + r ≤ 64 → (zU m r i = [] → lsb_5p1 ((m : Nat) : Int) r i = .x1 (i + r)) ∧ (zU m r i ≠ [] → lsb_5p1 ((m : Nat) : Int) r i = .x0 (i + r) (zU m r i))
  | 0, i, _ => ⟨fun _ => rfl, fun h => absurd rfl h⟩
  | r + 1, i, h => by
    unfold lsb_5p1 zU
    rw [bt_eq hm (by omega)]
    cases m.testBit i with
    | true => simp only [cond_true]; rw [l5pa_B hm r (i + 1) _ (by omega)]; simp; omega
    | false =>
      have ih := l5p_B hm r (i + 1) (by omega)
      rw [show i + 1 + r = i + (r + 1) by omega] at ih
      simp only [cond_false]
      exact ih
section
variable {e : S_Estate} {width : Int} {n : Nat}
theorem l1a_B (hn : n ≤ 12) : ∀ (r i : Nat) (c : List Int), 1 ≤ i → i + r ≤ 2 ^ n → c ≠ [] → ∃ w, goC (okLB e width) (ltI e) n r i (some c) = some w ∧ w ≠ [] ∧ lsb_1a (n : Int) e width r i c = .x0 (i + r) w
  | 0, i, c, _, _, h => ⟨c, rfl, h, rfl⟩
  | r + 1, i, c, h1, h2, h3 => by
    have hp : 2 ^ n ≤ 2 ^ 12 := Nat.pow_le_pow_right (by omega) hn
    have hne := bits_ne (n := n) (m := i) (by omega) h1
    have q := (l5_B c (m := i) (by omega) n 0 (by omega)).2 hne
    unfold lsb_1a goC stp
    rw [show ((n : Int) - 0).toNat = n by omega, q]
    dsimp only
    change ∃ w, goC _ _ n r (i + 1) (bif ltI e (chosen n i) c then bif okLB e width (chosen n i) then some (chosen n i) else some c else some c) = some w ∧ w ≠ [] ∧ (bif ltI e (chosen n i) c then bif okLB e width (chosen n i) then _ else _ else _) = _
    rw [show i + (r + 1) = i + 1 + r by omega]
    cases ltI e (chosen n i) c with
    | false => exact l1a_B hn r (i + 1) c (by omega) (by omega) h3
    | true =>
      cases okLB e width (chosen n i) with
      | false => exact l1a_B hn r (i + 1) c (by omega) (by omega) h3
      | true => exact l1a_B hn r (i + 1) (chosen n i) (by omega) (by omega) hne
def optB (v : Bool) : Option (List Int) := match v with | true => some [] | false => none
theorem l1_B (hn : n ≤ 12) : ∀ (r i : Nat) (v : Bool), i + r ≤ 2 ^ n → (∃ v', goC (okLB e width) (ltI e) n r i (optB v) = optB v' ∧ lsb_1 (n : Int) e width r i v = .x1 (i + r) v') ∨ (∃ w, goC (okLB e width) (ltI e) n r i (optB v) = some w ∧ w ≠ [] ∧ lsb_1 (n : Int) e width r i v = .x0 (i + r) w)
  | 0, i, v, _ => .inl ⟨v, rfl, rfl⟩
  | r + 1, i, v, h2 => by
    have hp : 2 ^ n ≤ 2 ^ 12 := Nat.pow_le_pow_right (by omega) hn
    have q := l5p_B (m := i) (by omega) n 0 (by omega)
    unfold lsb_1 goC
    rw [show ((n : Int) - 0).toNat = n by omega, show i + (r + 1) = i + 1 + r by omega]
    have b1 : decide (zH GS.nil GS.nil e < 0) = ltI e [] [] := rfl
    have b2 : zF GS.nil e width = okLB e width [] := rfl
    have a1 : decide (zH (GS.some (zU i n 0)) GS.nil e < 0) = ltI e (chosen n i) [] := by rw [cheap_nil]; rfl
    have a2 : zF (GS.some (zU i n 0)) e width = okLB e width (chosen n i) := rfl
    have a3 : zU i n 0 = chosen n i := rfl
    have s1 : ∀ l, stp (okLB e width) (ltI e) (optB true) l = (bif ltI e l [] then (bif okLB e width l then some l else some []) else some []) := fun _ => rfl
    have s0 : ∀ l, stp (okLB e width) (ltI e) (optB false) l = (bif okLB e width l then some l else none) := fun _ => rfl
    by_cases hc : chosen n i = []
    · rw [q.1 hc, hc]
      dsimp only
      rw [b1, b2]
      cases v with
      | true =>
        rw [s1]
        simp only [cond_true]
        cases ltI e [] [] with
        | false => exact l1_B hn r (i + 1) true (by omega)
        | true => cases okLB e width [] <;> exact l1_B hn r (i + 1) true (by omega)
      | false =>
        rw [s0]
        simp only [cond_false]
        cases okLB e width [] with
        | false => exact l1_B hn r (i + 1) false (by omega)
        | true => exact l1_B hn r (i + 1) true (by omega)
    · rw [q.2 hc]
      dsimp only
      rw [a1, a2, a3]
      have far : ∃ w, goC (okLB e width) (ltI e) n r (i + 1) (some (chosen n i)) = some w ∧ w ≠ [] ∧ lsb_1a (n : Int) e width r (i + 1) (chosen n i) = .x0 (i + 1 + r) w := l1a_B hn r (i + 1) (chosen n i) (by omega) (by omega) hc
      cases v with
      | true =>
        rw [s1]
        simp only [cond_true]
        cases ltI e (chosen n i) [] with
        | false => exact l1_B hn r (i + 1) true (by omega)
        | true =>
          cases okLB e width (chosen n i) with
          | false => exact l1_B hn r (i + 1) true (by omega)
          | true => exact .inr far
      | false =>
        rw [s0]
        simp only [cond_false]
        cases okLB e width (chosen n i) with
        | false => exact l1_B hn r (i + 1) false (by omega)
        | true => exact .inr far
/-- leastOf: the least list. -/
theorem leastB_eq (hn : n ≤ 12) : (leastB (n : Int) e width).1.l = (goC (okLB e width) (ltI e) n (2 ^ n) 0 none).getD [] ∧ (leastB (n : Int) e width).2 = (goC (okLB e width) (ltI e) n (2 ^ n) 0 none).isSome := by
  unfold leastB
  rw [shl_one (by omega) (by omega), Int.sub_zero, Int.toNat_natCast, Int.toNat_natCast]
  rcases l1_B (e := e) (width := width) hn (2 ^ n) 0 false (by omega) with ⟨v', h1, h2⟩ | ⟨w, h1, h2, h3⟩
  · have h1' : goC (okLB e width) (ltI e) n (2 ^ n) 0 none = optB v' := h1
    rw [h2, h1']
    cases v' <;> exact ⟨rfl, rfl⟩
  · have h1' : goC (okLB e width) (ltI e) n (2 ^ n) 0 none = some w := h1
    rw [h3, h1']
    exact ⟨rfl, rfl⟩
end
end Go.VS

/-
  Best, plainly; what it costs. (A text of this claim's own; nothing of it is trusted.)
-/
namespace Go.VS
open Go
set_option maxHeartbeats 0
/-- The cheapest list behind which so much is left. -/
def bstO (e : S_Estate) (width : Int) : Option (List Int) := goC (okLB e width) (ltI e) e.items.l.length (2 ^ e.items.l.length) 0 none
theorem cheapestB_eq (e : S_Estate) (width : Int) : yf e width = leastB ((e.items.l.length : Nat) : Int) e width := by
  unfold yf
  generalize leastB ((e.items.l.length : Nat) : Int) e width = r
  obtain ⟨g, b⟩ := r
  dsimp only
  cases g.nl <;> cases b <;> rfl
theorem bestF {e : S_Estate} (h : V e) {width : Int} (hw : 0 ≤ width) :
    (zc e width).1.l = (bstO e width).getD [] ∧ (zc e width).2.1 = (bstO e width).isSome ∧ (zc e width).2.2 = 0 := by
  have k := leastB_eq (e := e) (width := width) (n := e.items.l.length) h.n2
  unfold zc
  rw [check_valid, zI.2 h, cheapestB_eq, decide_eq_false (by omega)]
  simp only [if_true, bne_self_eq_false, cond_false]
  unfold bstO
  rw [← k.1, ← k.2]
  generalize leastB ((e.items.l.length : Nat) : Int) e width = r
  obtain ⟨g, b⟩ := r
  dsimp only
  cases g.nl <;> cases b <;> exact ⟨rfl, rfl, rfl⟩
theorem okB_eq {e : S_Estate} (h : V e) {l : List Int} (hi : inc (-1) (e.items.l.length : Int) l) {width : Int} : okLB e width l = true ↔ Wg e (tot (gs e l)) ≤ width := by
  unfold okLB zF
  rw [(worstP h hi).1]
  cases hc : decide (Wg e (tot (gs e l)) ≤ width) with
  | true => exact ⟨fun _ => of_decide_eq_true hc, fun _ => rfl⟩
  | false => exact ⟨fun h => (by cases h), fun h => absurd h (of_decide_eq_false hc)⟩
theorem cmpB (a b : Int) : cmp_Compare a b = if a < b then -1 else if b < a then 1 else 0 := by
  unfold cmp_Compare cmp_isNaN
  simp only [bne_self_eq_false, cond_false, Bool.cond_decide]
theorem ltB_cost {e : S_Estate} (l c : List Int) : (ltI e l c = true → zp e (GS.some l) ≤ zp e (GS.some c)) ∧ (ltI e l c = false → zp e (GS.some c) ≤ zp e (GS.some l)) := by
  unfold ltI zH or3
  rw [cmpB (zp e (GS.some l)), cmpB ((((GS.some l).l.length : Nat) : Int))]
  by_cases h1 : zp e (GS.some l) < zp e (GS.some c)
  · rw [if_pos h1]
    refine ⟨fun _ => by omega, fun h => ?_⟩
    simp at h
  · rw [if_neg h1]
    by_cases h2 : zp e (GS.some c) < zp e (GS.some l)
    · rw [if_pos h2]
      refine ⟨fun h => ?_, fun _ => by omega⟩
      simp at h
    · exact ⟨fun _ => by omega, fun _ => by omega⟩
theorem bst_some {e : S_Estate} (h : V e) {width : Int} {w : List Int} (hw : bstO e width = some w) : inc (-1) (e.items.l.length : Int) w ∧ Wg e (tot (gs e w)) ≤ width ∧ ∀ l, inc (-1) (e.items.l.length : Int) l → Wg e (tot (gs e l)) ≤ width → tot (cs e w) ≤ tot (cs e l) := by
  have hc := goC_le (cost := fun l => zp e (GS.some l)) (fun l c => (ltB_cost l c).1) (fun l c => (ltB_cost l c).2) _ _ _ _ hw
  rcases goC_some _ _ _ _ hw with h1 | ⟨k, _, _, rfl, h1⟩
  · cases h1
  · have hi := chosen_inc e.items.l.length k
    refine ⟨hi, (okB_eq h hi).1 h1, fun l hl hwl => ?_⟩
    obtain ⟨m, m1, _, m3⟩ := bits_all e.items.l.length 0 l (by simpa using hl)
    have e3 : chosen e.items.l.length m = l := m3
    have := hc.2 m (Nat.zero_le _) (by simpa using m1) (by rw [e3]; exact (okB_eq h hl).2 hwl)
    rw [e3] at this
    rwa [(cost_eq h hi).1, (cost_eq h hl).1] at this
theorem bst_any {e : S_Estate} (h : V e) {width : Int} {l : List Int} (hl : inc (-1) (e.items.l.length : Int) l) (hwl : Wg e (tot (gs e l)) ≤ width) : ∃ w, bstO e width = some w := by
  obtain ⟨m, m1, _, m3⟩ := bits_all e.items.l.length 0 l (by simpa using hl)
  have e3 : chosen e.items.l.length m = l := m3
  exact goC_any _ _ _ m (Nat.zero_le _) (by simpa using m1) (by rw [e3]; exact (okB_eq h hl).2 hwl)
end Go.VS

/-
  What OrdersCheap asks, plainly. (A text of this claim's own; nothing of it is trusted.)
-/
namespace Go.VS
open Go
set_option maxHeartbeats 0
section
variable {e : S_Estate}
theorem gr {l : List Int} (h : V e) (hl : inc (-1) (e.items.l.length : Int) l) : 0 ≤ tot (gs e l) ∧ tot (gs e l) ≤ sHi e.items.l - sLo e.items.l := gs_range h hl
/-- Best, at any width. -/
theorem best_at (h : V e) {width : Int} (hw : 0 ≤ width) : (zc e width).2.2 = 0 ∧
    ((zc e width).2.1 = true → inc (-1) (e.items.l.length : Int) (zc e width).1.l ∧ Wg e (tot (gs e (zc e width).1.l)) ≤ width ∧ ∀ l, inc (-1) (e.items.l.length : Int) l → Wg e (tot (gs e l)) ≤ width → tot (cs e (zc e width).1.l) ≤ tot (cs e l)) ∧
    ((zc e width).2.1 = true ↔ ∃ l, inc (-1) (e.items.l.length : Int) l ∧ Wg e (tot (gs e l)) ≤ width) := by
  obtain ⟨h1, h2, h3⟩ := bestF h hw
  refine ⟨h3, fun hb => ?_, ?_⟩
  · rw [h2] at hb
    cases hw' : bstO e width with
    | none => rw [hw'] at hb; cases hb
    | some w =>
      rw [h1, hw']
      exact bst_some h hw'
  · rw [h2]
    constructor
    · intro hb
      cases hw' : bstO e width with
      | none => rw [hw'] at hb; cases hb
      | some w => have := bst_some h hw'; exact ⟨w, this.1, this.2.1⟩
    · rintro ⟨l, hl, hwl⟩
      obtain ⟨w, hw'⟩ := bst_any h hl hwl
      rw [hw']; rfl
/-- The last front. -/
def LF (e : S_Estate) : GS Arr2_Int := GS.at ((ze e).1) (w64 (((((ze e).1).l.length : Nat) : Int) - 1))
theorem lf_is (h : V e) : ∃ S, IsFr S (LF e).l ∧ (∀ p, p ∈ S ↔ ∃ l, inc (-1) (e.items.l.length : Int) l ∧ p = pr e l) ∧ (LF e).l.length ≤ 4096 := by
  have hn := h.n2
  have hf : ze e = (GS.some ((frAll e).map GS.some), 0) := by rw [bothFronts, rfronts_eq h]
  have hlen : (GS.some ((frAll e).map GS.some)).l.length = e.items.l.length + 1 := by rw [GS.some_l, List.length_map]; simp [frAll, frs_len]
  obtain ⟨S, q, h1, h2, h3, _, h5⟩ := front_all h e.items.l.length (Nat.le_refl _)
  have e1 : LF e = GS.some q := by
    unfold LF
    rw [hf]
    simp only []
    rw [hlen, yi (by omega) (by omega), show (((e.items.l.length + 1 : Nat) : Int) - 1) = ((e.items.l.length : Nat) : Int) from by omega, at_get, GS.some_l, List.getD_eq_getElem?_getD, List.getElem?_map, h1]
    rfl
  rw [e1]
  exact ⟨S, h3, h5, Nat.le_trans h2.le (Nat.le_trans (Nat.pow_le_pow_right (by omega) hn) (by decide))⟩
theorem need_at (h : V e) {width : Int} (hw : 0 ≤ width) : (zC e width).2.2 = 0 ∧ ∀ g, 0 ≤ g → g ≤ sHi e.items.l - sLo e.items.l → (Wg e g ≤ width ↔ (zC e width).1 ≤ g) := by
  obtain ⟨m, h1, _, h3⟩ := need_eq h hw
  rw [h1]
  exact ⟨rfl, h3⟩
theorem need_may (h : V e) {width : Int} (hw : 0 ≤ width) : (zC e width).2.1 = (zc e width).2.1 := by
  obtain ⟨m, h1, _, h3⟩ := need_eq h hw
  have hb := (best_at h hw).2.2
  have ha := gr h (upto_inc e.items.l.length)
  have hg : tot (gs e (upto (e.items.l.length : Int))) = tot (Gl e) := by rw [gs_upto]
  rw [h1]
  cases hc : (zc e width).2.1 with
  | true =>
    obtain ⟨l, hl, hwl⟩ := hb.1 hc
    have h4 := (h3 _ (gr h hl).1 (gr h hl).2).1 hwl
    have h5 := gs_le h (by omega) hl
    simp only [show (-1 + 1 : Int).toNat = 0 from rfl, List.drop_zero] at h5
    exact decide_eq_true (by omega)
  | false =>
    refine decide_eq_false fun hm => ?_
    have := hb.2 ⟨_, upto_inc e.items.l.length, (h3 _ ha.1 ha.2).2 (by omega)⟩
    rw [hc] at this; cases this
/-- The first pair with so much. -/
theorem idxE (need : Int) : ∀ (l : List Arr2_Int) (i : Nat), (idxEn_2 need l i = .x0 ∧ ∀ p ∈ l, p.x1 < need) ∨ ∃ j x, idxEn_2 need l i = .x1 (i + j) x ∧ l[j]? = some x ∧ need ≤ x.x1 ∧ ∀ k y, k < j → l[k]? = some y → y.x1 < need
  | [], i => .inl ⟨rfl, fun p hp => by cases hp⟩
  | x :: l, i => by
    unfold idxEn_2
    by_cases hx : x.x1 ≥ need
    · have : enough x need = true := by unfold enough; rw [decide_eq_true hx]; rfl
      rw [this]
      exact .inr ⟨0, x, rfl, rfl, hx, fun k y hk => by omega⟩
    · have : enough x need = false := by unfold enough; rw [decide_eq_false hx]; rfl
      rw [this]
      rcases idxE need l (i + 1) with ⟨h1, h2⟩ | ⟨j, y, h1, h2, h3, h4⟩
      · refine .inl ⟨h1, fun p hp => ?_⟩
        rcases List.mem_cons.1 hp with rfl | hp
        · omega
        · exact h2 p hp
      · refine .inr ⟨j + 1, y, ?_, h2, h3, fun k z hk hz => ?_⟩
        · rw [cond_false, h1]; congr 1; omega
        · cases k with
          | zero => simp at hz; subst hz; omega
          | succ k => exact h4 k z (by omega) (by simpa using hz)
theorem first_at (h : V e) {width : Int} (hw : 0 ≤ width) : decide (idxEn (LF e) (zC e width).1 ≥ 0) = (zc e width).2.1 ∧
    ((zc e width).2.1 = true → (GS.at (LF e) (idxEn (LF e) (zC e width).1)).x0 = tot (cs e (zc e width).1.l) ∧ 0 ≤ idxEn (LF e) (zC e width).1 ∧ idxEn (LF e) (zC e width).1 < (((LF e).l.length : Nat) : Int)) := by
  obtain ⟨S, f1, f2, f3⟩ := lf_is h
  obtain ⟨_, b1, b2⟩ := best_at h hw
  obtain ⟨_, nd⟩ := need_at h hw
  rcases idxE (zC e width).1 (LF e).l 0 with ⟨h1, h2⟩ | ⟨j, x, h1, h2, h3, h4⟩
  · have hi : idxEn (LF e) (zC e width).1 = -1 := by unfold idxEn; rw [h1]
    have hb : (zc e width).2.1 = false := by
      cases hc : (zc e width).2.1 with
      | false => rfl
      | true =>
        obtain ⟨l, hl, hwl⟩ := b2.1 hc
        obtain ⟨q, hq, _, hq1⟩ := f1.dom (pr e l) ((f2 _).2 ⟨l, hl, rfl⟩)
        have hm := (nd _ (gr h hl).1 (gr h hl).2).1 hwl
        have := h2 q hq
        have hq1' : tot (gs e l) ≤ q.x1 := hq1
        omega
    rw [hi, hb]
    exact ⟨rfl, fun h => by cases h⟩
  · have hi : idxEn (LF e) (zC e width).1 = (j : Int) := by unfold idxEn; rw [h1]; simp
    have hx := List.mem_of_getElem? h2
    obtain ⟨T, hT, eT⟩ := (f2 x).1 (f1.of x hx)
    have hgx : (zC e width).1 ≤ tot (gs e T) := by
      have : x.x1 = tot (gs e T) := by rw [eT]; rfl
      omega
    have hwT := (nd _ (gr h hT).1 (gr h hT).2).2 hgx
    have hb : (zc e width).2.1 = true := b2.2 ⟨T, hT, hwT⟩
    rw [hi, hb]
    refine ⟨decide_eq_true (by omega), fun _ => ⟨?_, by omega, by have := (List.getElem?_eq_some_iff.1 h2).1; omega⟩⟩
    obtain ⟨bi, bw, bm⟩ := b1 hb
    have hat : GS.at (LF e) (j : Int) = x := by rw [at_get, List.getD_eq_getElem?_getD, h2]; rfl
    rw [hat]
    have hxc : x.x0 = tot (cs e T) := by rw [eT]; rfl
    have h5 := bm T hT hwT
    obtain ⟨q, hq, hq0, hq1⟩ := f1.dom (pr e (zc e width).1.l) ((f2 _).2 ⟨_, bi, rfl⟩)
    have hq0' : q.x0 ≤ tot (cs e (zc e width).1.l) := hq0
    have hq1' : tot (gs e (zc e width).1.l) ≤ q.x1 := hq1
    have hm := (nd _ (gr h bi).1 (gr h bi).2).1 bw
    obtain ⟨k, hk⟩ := List.mem_iff_getElem?.1 hq
    have hjk : j ≤ k := by
      rcases Nat.lt_or_ge k j with hlt | hge
      · have := h4 k q hlt hk; omega
      · exact hge
    have hjl := (List.getElem?_eq_some_iff.1 h2)
    have hkl := (List.getElem?_eq_some_iff.1 hk)
    rcases Nat.lt_or_eq_of_le hjk with hlt | rfl
    · have := List.pairwise_iff_getElem.1 f1.inc j k hjl.1 hkl.1 hlt
      rw [hjl.2, hkl.2] at this
      omega
    · rw [h2] at hk; cases hk; omega
/-! ### steps -/
theorem steps_at (h : V e) : (z6 e).2 = 0 ∧ 1 ≤ (z6 e).1.l.length ∧ (z6 e).1.l.length ≤ 4096 ∧
    (∀ i j (hi : i < (z6 e).1.l.length) (hj : j < (z6 e).1.l.length), i < j → ((z6 e).1.l[i]).x0 < ((z6 e).1.l[j]).x0 ∧ ((z6 e).1.l[j]).x1 < ((z6 e).1.l[i]).x1) ∧
    (∀ p ∈ (z6 e).1.l, ∃ l, inc (-1) (e.items.l.length : Int) l ∧ p = ⟨tot (cs e l), Wg e (tot (gs e l))⟩) ∧
    (∀ l, inc (-1) (e.items.l.length : Int) l → ∃ p ∈ (z6 e).1.l, p.x0 ≤ tot (cs e l) ∧ p.x1 ≤ Wg e (tot (gs e l))) := by
  obtain ⟨v, h1, h2⟩ := steps_eq h
  have hn := h.n2
  have hp : 2 ^ e.items.l.length ≤ 2 ^ 12 := Nat.pow_le_pow_right (by omega) hn
  have hlen : (allS e).length = 2 ^ e.items.l.length := by simp [allS]
  have hng : ∀ p ∈ v, ∃ l, inc (-1) (e.items.l.length : Int) l ∧ p = ⟨tot (cs e l), - Wg e (tot (gs e l))⟩ ∧ ng p = ⟨tot (cs e l), Wg e (tot (gs e l))⟩ := fun p hp => by
    obtain ⟨l, hl, rfl⟩ := (allS_mem h p).1 (h2.of p hp)
    have hw := worstP h hl
    refine ⟨l, hl, rfl, ?_⟩
    unfold ng
    simp only []
    rw [yi (by omega) (by omega)]
    congr 1; omega
  have hx1 : ∀ p ∈ v, (ng p).x0 = p.x0 ∧ (ng p).x1 = - p.x1 := fun p hp => by
    obtain ⟨l, hl, e1, e2⟩ := hng p hp
    rw [e2, e1]
    exact ⟨rfl, by simp⟩
  have hvl : v.length ≤ 4096 := by
    have hveq : v = y9 (allS e) := by
      have hpos := Nat.two_pow_pos e.items.l.length
      exact h2.uniq (front_is (by omega) (by omega)) fun p => Iff.rfl
    have hpos := Nat.two_pow_pos e.items.l.length
    have := zq (l := allS e) (by omega)
    rw [hveq]
    omega
  rw [h1]
  simp only [GS.some_l, List.length_map]
  refine ⟨trivial, ?_, hvl, fun i j hi hj hij => ?_, fun p hp => ?_, fun l hl => ?_⟩
  · have hpos := Nat.two_pow_pos e.items.l.length
    have hne : allS e ≠ [] := fun e0 => by rw [e0] at hlen; simp at hlen; omega
    obtain ⟨i, y, rfl⟩ := h2.ne hne
    simp
  · have := List.pairwise_iff_getElem.1 h2.inc i j hi hj hij
    have q1 := hx1 v[i] (List.getElem_mem hi)
    have q2 := hx1 v[j] (List.getElem_mem hj)
    rw [List.getElem_map, List.getElem_map]
    omega
  · obtain ⟨q, hq, rfl⟩ := List.mem_map.1 hp
    obtain ⟨l, hl, _, e2⟩ := hng q hq
    exact ⟨l, hl, e2⟩
  · obtain ⟨q, hq, q0, q1⟩ := h2.dom ⟨tot (cs e l), - Wg e (tot (gs e l))⟩ ((allS_mem h _).2 ⟨l, hl, rfl⟩)
    have q2 := hx1 q hq
    simp only at q0 q1
    exact ⟨ng q, List.mem_map.2 ⟨q, hq, rfl⟩, by omega, by omega⟩
/-- A step is what Best costs for its width. -/
theorem step_best (h : V e) {p : Arr2_Int} (hp : p ∈ (z6 e).1.l) : 0 ≤ p.x1 ∧ (zc e p.x1).2.1 = true ∧ inc (-1) (e.items.l.length : Int) (zc e p.x1).1.l ∧ tot (cs e (zc e p.x1).1.l) = p.x0 ∧ Wg e (tot (gs e (zc e p.x1).1.l)) = p.x1 := by
  obtain ⟨_, _, _, s4, s5, s6⟩ := steps_at h
  obtain ⟨l, hl, e1⟩ := s5 p hp
  have hw := worstP h hl
  have h0 : 0 ≤ p.x1 := by rw [e1]; exact hw.2.1
  have ex : p.x1 = Wg e (tot (gs e l)) := by rw [e1]
  have ec : p.x0 = tot (cs e l) := by rw [e1]
  obtain ⟨_, b1, b2⟩ := best_at h h0
  have hb : (zc e p.x1).2.1 = true := b2.2 ⟨l, hl, by omega⟩
  obtain ⟨bi, bw, bm⟩ := b1 hb
  have hm := bm l hl (by omega)
  obtain ⟨q, hq, q0, q1⟩ := s6 _ bi
  obtain ⟨i, hi, ei⟩ := List.mem_iff_getElem.1 hp
  obtain ⟨j, hj, ej⟩ := List.mem_iff_getElem.1 hq
  have hij : i = j := by
    rcases Nat.lt_trichotomy i j with hlt | he | hlt
    · have := s4 i j hi hj hlt; rw [ei, ej] at this; omega
    · exact he
    · have := s4 j i hj hi hlt; rw [ei, ej] at this; omega
  subst hij
  have hpq : p = q := ei.symm.trans ej
  subst hpq
  exact ⟨h0, hb, bi, by omega, by omega⟩
theorem step_last (h : V e) {p : Arr2_Int} (hp : (z6 e).1.l.getLast? = some p) (h1 : 0 < p.x1) : (zc e (p.x1 - 1)).2.1 = false := by
  obtain ⟨_, s2, _, s4, s5, s6⟩ := steps_at h
  cases hc : (zc e (p.x1 - 1)).2.1 with
  | false => rfl
  | true =>
    obtain ⟨l, hl, hwl⟩ := (best_at h (by omega)).2.2.1 hc
    obtain ⟨q, hq, _, q1⟩ := s6 l hl
    obtain ⟨j, hj, ej⟩ := List.mem_iff_getElem.1 hq
    have hlast : (z6 e).1.l[(z6 e).1.l.length - 1]'(by omega) = p := by
      rw [List.getLast?_eq_getElem?, List.getElem?_eq_getElem (by omega)] at hp
      exact Option.some.inj hp
    rcases Nat.lt_or_ge j ((z6 e).1.l.length - 1) with hlt | hge
    · have := s4 j _ hj (by omega) hlt
      rw [ej, hlast] at this
      omega
    · have : j = (z6 e).1.l.length - 1 := by omega
      subst this
      rw [ej] at hlast
      subst hlast
      omega
end
end Go.VS

/-
  What OrdersCheap asks, in its own words. (A text of this claim's own; nothing of it is trusted.)
-/
namespace Go.VS
open Go
set_option maxHeartbeats 0
section
variable {e : S_Estate} {items : GS Int} {width step : Int}
theorem kW (hw : decide (width < 0) = false) : 0 ≤ width := by have := of_decide_eq_false hw; omega
theorem best_len (e : S_Estate) (width : Int) : (zc e width).1.l.length ≤ 9223372036854775807 := by
  cases hv : zV e with
  | false =>
    unfold zc
    rw [check_valid, hv]
    simp [GS.nil]
  | true =>
    have h := zI.1 hv
    by_cases hw : width < 0
    · unfold zc
      rw [check_valid, hv, decide_eq_true hw]
      simp [GS.nil]
    · rw [(bestF h (by omega)).1]
      cases hb : bstO e width with
      | none => simp
      | some w => have := inc_short h (bst_some h hb).1; show w.length ≤ _; omega
theorem steps_len (e : S_Estate) : (z6 e).1.l.length ≤ 4096 := by
  cases hv : zV e with
  | false =>
    unfold z6
    rw [check_valid, hv]
    simp [GS.nil]
  | true => exact (steps_at (zI.1 hv)).2.2.1
theorem at_bd2 {α : Type} {s : GS (GS α)} {n : Nat} (h : ∀ r ∈ s.l, r.l.length ≤ n) (i : Int) : (s.at i).l.length ≤ n := by
  show (s.l.getD i.toNat default).l.length ≤ n
  rcases Nat.lt_or_ge i.toNat s.l.length with hi | hi
  · rw [getD_of_lt hi]; exact h _ (List.getElem_mem hi)
  · rw [List.getD_eq_getElem?_getD, List.getElem?_eq_none hi]; exact Nat.zero_le _
theorem fr_len (hv : zV e = true) : (ze e).2 = 0 ∧ 1 ≤ (ze e).1.l.length ∧ (ze e).1.l.length ≤ 13 := by
  have h := zI.1 hv
  have hn := h.n2
  rw [bothFronts, rfronts_eq h]
  simp only [GS.some_l, List.length_map]
  simp [frAll, frs_len]
  omega
theorem costOf (h : V e) {b : GS Int} (hL : b.l.length ≤ 9223372036854775807) (hi : inc (-1) (e.items.l.length : Int) b.l) : zP e b = (tot (cs e b.l), 0) := by
  unfold zP
  rw [right_of hL h hi, ← (cost_eq h hi).1]
  rfl
/-! the indices -/
theorem last_at' {n : Nat} (h : 1 ≤ n) (h2 : n ≤ 4096) : 0 ≤ w64 ((n : Int) - 1) ∧ w64 ((n : Int) - 1) < (n : Int) := by rw [yi (by omega) (by omega)]; omega
theorem sl_lo (hv : zV e = true) : 0 ≤ w64 (((((z6 e).1).l.length : Nat) : Int) - 1) := (last_at' (steps_at (zI.1 hv)).2.1 (steps_len e)).1
theorem sl_hi (hv : zV e = true) : w64 (((((z6 e).1).l.length : Nat) : Int) - 1) < ((((z6 e).1).l.length : Nat) : Int) := (last_at' (steps_at (zI.1 hv)).2.1 (steps_len e)).2
theorem fl_lo (hv : zV e = true) : 0 ≤ w64 (((((ze e).1).l.length : Nat) : Int) - 1) := (last_at' (fr_len hv).2.1 (by have := (fr_len hv).2.2; omega)).1
theorem fl_hi (hv : zV e = true) : w64 (((((ze e).1).l.length : Nat) : Int) - 1) < ((((ze e).1).l.length : Nat) : Int) := (last_at' (fr_len hv).2.1 (by have := (fr_len hv).2.2; omega)).2
theorem mod_ix {n : Nat} (h : 1 ≤ n) (h2 : n ≤ 4096) (s : Int) : 0 ≤ (w64 (s.tmod (n : Int) + (n : Int))).tmod (n : Int) ∧ (w64 (s.tmod (n : Int) + (n : Int))).tmod (n : Int) < (n : Int) := by
  have h1 := Int.tmod_lt_of_pos s (show (0 : Int) < n by omega)
  have h3 : - (n : Int) < s.tmod n := by
    have := Int.tmod_lt_of_pos (-s) (show (0 : Int) < n by omega)
    rw [Int.neg_tmod] at this
    omega
  rw [yi (by omega) (by omega)]
  exact ⟨Int.tmod_nonneg _ (by omega), Int.tmod_lt_of_pos _ (by omega)⟩
theorem sm_lo (hv : zV e = true) : 0 ≤ (w64 ((step.tmod ((((z6 e).1).l.length : Nat) : Int)) + ((((z6 e).1).l.length : Nat) : Int))).tmod ((((z6 e).1).l.length : Nat) : Int) := (mod_ix (steps_at (zI.1 hv)).2.1 (steps_len e) step).1
theorem sm_hi (hv : zV e = true) : (w64 ((step.tmod ((((z6 e).1).l.length : Nat) : Int)) + ((((z6 e).1).l.length : Nat) : Int))).tmod ((((z6 e).1).l.length : Nat) : Int) < ((((z6 e).1).l.length : Nat) : Int) := (mod_ix (steps_at (zI.1 hv)).2.1 (steps_len e) step).2
def stepP (e : S_Estate) (step : Int) : Arr2_Int := GS.at ((z6 e).1) ((w64 ((step.tmod ((((z6 e).1).l.length : Nat) : Int)) + ((((z6 e).1).l.length : Nat) : Int))).tmod ((((z6 e).1).l.length : Nat) : Int))
def lastP (e : S_Estate) : Arr2_Int := GS.at ((z6 e).1) (w64 (((((z6 e).1).l.length : Nat) : Int) - 1))
theorem stepP_mem (hv : zV e = true) : stepP e step ∈ (z6 e).1.l := at_mem (sm_lo hv) (sm_hi hv)
theorem lastP_last (hv : zV e = true) : (z6 e).1.l.getLast? = some (lastP e) := by
  have h1 := (steps_at (zI.1 hv)).2.1
  have h2 := steps_len e
  unfold lastP GS.at
  rw [yi (by omega) (by omega), List.getLast?_eq_getElem?, List.getElem?_eq_getElem (by omega)]
  have : (((((z6 e).1).l.length : Nat) : Int) - 1).toNat = (z6 e).1.l.length - 1 := by omega
  rw [this, getD_of_lt (by omega)]
/-! what is asked -/
theorem ck_may (hv : zV e = true) (hw : decide (width < 0) = false) {b : Bool} (hb : (zc e width).2.1 = b) : (zC e width).2.1 = b := by rw [need_may (zI.1 hv) (kW hw), hb]
theorem ck_b2 (hv : zV e = true) (hw : decide (width < 0) = false) : ((zc e width).2.2 != 0) = false := by rw [(best_at (zI.1 hv) (kW hw)).1]; rfl
theorem ck_n2 (hv : zV e = true) (hw : decide (width < 0) = false) : ((zC e width).2.2 != 0) = false := by rw [(need_at (zI.1 hv) (kW hw)).1]; rfl
theorem ck_f2 (hv : zV e = true) : ((ze e).2 != 0) = false := by rw [(fr_len hv).1]; rfl
theorem ck_s2 (hv : zV e = true) : ((z6 e).2 != 0) = false := by rw [(steps_at (zI.1 hv)).1]; rfl
theorem ck_fl (hv : zV e = true) : (((((ze e).1).l.length : Nat) : Int) == 0) = false := beq_false_of_ne (by have := (fr_len hv).2.1; omega)
theorem ck_sl (hv : zV e = true) : (((((z6 e).1).l.length : Nat) : Int) == 0) = false := beq_false_of_ne (by have := (steps_at (zI.1 hv)).2.1; omega)
theorem ck_first (hv : zV e = true) (hw : decide (width < 0) = false) {b : Bool} (hb : (zc e width).2.1 = b) : decide (idxEn (LF e) ((zC e width).1) ≥ 0) = b := by rw [(first_at (zI.1 hv) (kW hw)).1, hb]
theorem fi_lo (hv : zV e = true) (hw : decide (width < 0) = false) (hb : (zc e width).2.1 = true) : 0 ≤ idxEn (GS.at ((ze e).1) (w64 (((((ze e).1).l.length : Nat) : Int) - 1))) ((zC e width).1) := ((first_at (zI.1 hv) (kW hw)).2 hb).2.1
theorem fi_hi (hv : zV e = true) (hw : decide (width < 0) = false) (hb : (zc e width).2.1 = true) : idxEn (GS.at ((ze e).1) (w64 (((((ze e).1).l.length : Nat) : Int) - 1))) ((zC e width).1) < ((((GS.at ((ze e).1) (w64 (((((ze e).1).l.length : Nat) : Int) - 1)))).l.length : Nat) : Int) := ((first_at (zI.1 hv) (kW hw)).2 hb).2.2
theorem wo (h : V e) {W : Int} (h0 : 0 ≤ W) (hb : (zc e W).2.1 = true) : zG e (zc e W).1 = (Wg e (tot (gs e (zc e W).1.l)), 0) := worst_eq h (best_len e W) ((best_at h h0).2.1 hb).1
theorem co (h : V e) {W : Int} (h0 : 0 ≤ W) (hb : (zc e W).2.1 = true) : zP e (zc e W).1 = (tot (cs e (zc e W).1.l), 0) := costOf h (best_len e W) ((best_at h h0).2.1 hb).1
theorem ck_w2 (hv : zV e = true) (hw : decide (width < 0) = false) (hb : (zc e width).2.1 = true) : ((zG e (zc e width).1).2 != 0) = false := by rw [wo (zI.1 hv) (kW hw) hb]; rfl
theorem ck_c2 (hv : zV e = true) (hw : decide (width < 0) = false) (hb : (zc e width).2.1 = true) : ((zP e (zc e width).1).2 != 0) = false := by rw [co (zI.1 hv) (kW hw) hb]; rfl
theorem ck_w1 (hv : zV e = true) (hw : decide (width < 0) = false) (hb : (zc e width).2.1 = true) : decide ((zG e (zc e width).1).1 > width) = false := by
  rw [wo (zI.1 hv) (kW hw) hb]
  have := ((best_at (zI.1 hv) (kW hw)).2.1 hb).2.1
  exact decide_eq_false (by simp only; omega)
theorem ck_c1 (hv : zV e = true) (hw : decide (width < 0) = false) (hb : (zc e width).2.1 = true) : ((zP e (zc e width).1).1 != (GS.at (LF e) (idxEn (LF e) ((zC e width).1))).x0) = false := by
  rw [co (zI.1 hv) (kW hw) hb, ((first_at (zI.1 hv) (kW hw)).2 hb).1]; exact bne_self_eq_false _
theorem ck_iw (hL : items.l.length ≤ 9223372036854775807) (hv : zV e = true) (hr : r_Right e items = true) : ((zG e items).2 != 0) = false := by rw [worst_eq (zI.1 hv) hL ((rright_iff hL).1 hr)]; rfl
theorem ck_ic (hL : items.l.length ≤ 9223372036854775807) (hv : zV e = true) (hr : r_Right e items = true) : ((zP e items).2 != 0) = false := by rw [costOf (zI.1 hv) hL ((rright_iff hL).1 hr)]; rfl
theorem ck_paid (hL : items.l.length ≤ 9223372036854775807) (hv : zV e = true) (hr : r_Right e items = true) (hw : decide (width < 0) = false) (hb : (zc e width).2.1 = true) (ho : decide ((zG e items).1 ≤ width) = true) : decide ((zP e items).1 < (zP e (zc e width).1).1) = false := by
  have h := zI.1 hv
  have hi := (rright_iff hL).1 hr
  have ho := of_decide_eq_true ho
  rw [worst_eq h hL hi] at ho
  have := ((best_at h (kW hw)).2.1 hb).2.2 items.l hi ho
  rw [costOf h hL hi, co h (kW hw) hb]
  exact decide_eq_false (by simp only; omega)
theorem im (hv : zV e = true) : ye (stepP e step).x1 0 = (stepP e step).x1 := by
  have := (step_best (zI.1 hv) (stepP_mem (step := step) hv)).1
  unfold ye; omega
theorem ck_sb (hv : zV e = true) : (zc e (ye (stepP e step).x1 0)).2.1 = true := by rw [im hv]; exact (step_best (zI.1 hv) (stepP_mem hv)).2.1
theorem ck_sb2 (hv : zV e = true) : ((zc e (ye (stepP e step).x1 0)).2.2 != 0) = false := by rw [im hv, (best_at (zI.1 hv) (step_best (zI.1 hv) (stepP_mem (step := step) hv)).1).1]; rfl
theorem ck_sw2 (hv : zV e = true) : ((zG e (zc e (ye (stepP e step).x1 0)).1).2 != 0) = false := by
  have k := step_best (zI.1 hv) (stepP_mem (step := step) hv)
  rw [im hv, wo (zI.1 hv) k.1 k.2.1]; rfl
theorem ck_sc2 (hv : zV e = true) : ((zP e (zc e (ye (stepP e step).x1 0)).1).2 != 0) = false := by
  have k := step_best (zI.1 hv) (stepP_mem (step := step) hv)
  rw [im hv, co (zI.1 hv) k.1 k.2.1]; rfl
theorem ck_sw1 (hv : zV e = true) : ((zG e (zc e (ye (stepP e step).x1 0)).1).1 != (stepP e step).x1) = false := by
  have k := step_best (zI.1 hv) (stepP_mem (step := step) hv)
  rw [im hv, wo (zI.1 hv) k.1 k.2.1, k.2.2.2.2]; exact bne_self_eq_false _
theorem ck_sc1 (hv : zV e = true) : ((zP e (zc e (ye (stepP e step).x1 0)).1).1 != (stepP e step).x0) = false := by
  have k := step_best (zI.1 hv) (stepP_mem (step := step) hv)
  rw [im hv, co (zI.1 hv) k.1 k.2.1, k.2.2.2.1]; exact bne_self_eq_false _
theorem lw (hv : zV e = true) (hp : decide ((lastP e).x1 > 0) = true) : w64 ((lastP e).x1 - 1) = (lastP e).x1 - 1 ∧ 0 < (lastP e).x1 := by
  have h0 := of_decide_eq_true hp
  have hm : lastP e ∈ (z6 e).1.l := List.mem_of_getLast? (lastP_last hv)
  obtain ⟨l, hl, e1⟩ := (steps_at (zI.1 hv)).2.2.2.2.1 _ hm
  have := worstP (zI.1 hv) hl
  have e2 : (lastP e).x1 = Wg e (tot (gs e l)) := by rw [e1]
  rw [yi (by omega) (by omega)]
  exact ⟨rfl, by omega⟩
theorem ck_l1 (hv : zV e = true) (hp : decide ((lastP e).x1 > 0) = true) : (zc e (w64 ((lastP e).x1 - 1))).2.1 = false := by
  rw [(lw hv hp).1]; exact step_last (zI.1 hv) (lastP_last hv) (lw hv hp).2
theorem ck_l2 (hv : zV e = true) (hp : decide ((lastP e).x1 > 0) = true) : ((zc e (w64 ((lastP e).x1 - 1))).2.2 == 0) = true := by
  rw [(lw hv hp).1, (best_at (zI.1 hv) (by have := (lw hv hp).2; omega)).1]; rfl
end
end Go.VS

