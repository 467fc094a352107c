/- Nothing of a statement is proved in this text alone: it is part 4 of the proof's own tools, an evaluator of the code over deep values, its soundness, and what it makes of this seat's functions. Conditions: none beyond the statement's own. -/
import Derived.Test.YtnifoeahomkdlaaGreatVsZKb3
set_option linter.unusedSimpArgs false
set_option linter.unusedVariables false
namespace Go.VS
open Go Go.Proofs
set_option maxHeartbeats 0
set_option linter.unusedSimpArgs false
set_option linter.unusedVariables false
noncomputable def lp52_3 : Code := subC [1, 1, 0, 1, 0, 0] (bodyC Tryz.f52)

def sd41 (e : S_Estate) (items : GS Int) (i3 : Nat) (x3 : Int) (va3_0 : List Int) : St := ⟨25, [(10, I ((i3 + 1 : Nat) : Int)), (23, I ((i3 + 1 : Nat) : Int)), (5, .lsl 3 0 ((va3_0 ++ [(zq (GS.at e.items x3))]).length) 1 none), (22, .lsl 3 0 ((va3_0 ++ [(zq (GS.at e.items x3))]).length) 1 none), (21, .lsl 2 0 1 1 (some 1)), (20, I (zq (GS.at e.items x3))), (19, .agg [I ((GS.at e.items x3).now.lo), I ((GS.at e.items x3).now.hi), I ((GS.at e.items x3).cost), I ((GS.at e.items x3).error)]), (18, .ptr (.agg [I ((GS.at e.items x3).now.lo), I ((GS.at e.items x3).now.hi), I ((GS.at e.items x3).cost), I ((GS.at e.items x3).error)])), (17, I x3), (16, .sl e.items.nl (e.items.l.map S_Item.D) (zsl e.items.nl 4) none), (15, .lref 0 0 3 0), (14, .lsl 1 0 va3_0.length 1 none), (7, I x3), (13, I x3), (12, .ptr (I x3)), (11, B true), (2, .lref 0 0 3 0), (5, .lsl 1 0 va3_0.length 1 none), (8, .sl items.nl (items.l.map I) (zsl items.nl 1) none), (9, I ((items.l.length : Nat) : Int)), (10, I ((i3 : Nat) : Int))], [(0, ⟨[.agg [.sl e.items.nl (e.items.l.map S_Item.D) (zsl e.items.nl 4) none, I e.whole.lo, I e.whole.hi]], 3, false⟩), (2, ⟨[I (zq (GS.at e.items x3))], 1, false⟩), (3, ⟨(va3_0 ++ [(zq (GS.at e.items x3))]).map I, 1, false⟩)], 4, 0⟩

inductive LR_orders_gains_3 where
  | x0 (va3_0 : List Int)
  | x1
instance : Inhabited LR_orders_gains_3 := ⟨.x0 default⟩
def orders_gains_3a (e : S_Estate) : List Int → (List Int) → LR_orders_gains_3
  | [], va3_0 => .x0 va3_0
  | x3 :: rest3, va3_0 =>
    orders_gains_3a e rest3 (va3_0 ++ [(zq (GS.at e.items x3))])
def orders_gains_3 (e : S_Estate) : List Int → LR_orders_gains_3
  | [] => .x1
  | x3 :: rest3 =>
    orders_gains_3a e rest3 [(zq (GS.at e.items x3))]
def lr_orders_gains_3 (e : S_Estate) (items : GS Int) : LR_orders_gains_3 → Exit × St
  | .x0 va3_0 => ((.exit 0), ⟨25, [(11, B false), (2, .lref 0 0 3 0), (5, .lsl 1 0 va3_0.length 1 none), (8, .sl items.nl (items.l.map I) (zsl items.nl 1) none), (9, I ((items.l.length : Nat) : Int)), (10, I ((items.l.length : Nat) : Int))], [(0, ⟨[.agg [.sl e.items.nl (e.items.l.map S_Item.D) (zsl e.items.nl 4) none, I e.whole.lo, I e.whole.hi]], 3, false⟩), (1, ⟨va3_0.map I, 1, false⟩)], 2, 0⟩)
  | .x1 => ((.exit 0), ⟨25, [(11, B false), (2, .lref 0 0 3 0), (5, .sl true [] 0 none), (8, .sl items.nl (items.l.map I) (zsl items.nl 1) none), (9, I ((items.l.length : Nat) : Int)), (10, I ((items.l.length : Nat) : Int))], [(0, ⟨[.agg [.sl e.items.nl (e.items.l.map S_Item.D) (zsl e.items.nl 4) none, I e.whole.lo, I e.whole.hi]], 3, false⟩)], 1, 0⟩)
def iv_orders_gains_3 (e : S_Estate) (items : GS Int) : LR_orders_gains_3 → Prop
  | .x0 va3_0 => (va3_0.length ≤ items.l.length)
  | .x1 => True
theorem lp_orders_gains_3a (e : S_Estate) (items : GS Int) : ∀ (rest3 : List Int) (i3 : Nat) (va3_0 : List Int) (hd3 : items.l.drop i3 = rest3) (hi3 : i3 ≤ items.l.length) (hall : ∀ i ∈ items.l, 0 ≤ i ∧ i < ((e.items.l.length : Nat) : Int)) (hg3_va3_0 : va3_0.length ≤ i3) (hL3 : items.l.length ≤ 1099511627776), (lim cfg).loop 52 lp52_3 ⟨25, [(2, .lref 0 0 3 0), (5, .lsl 1 0 va3_0.length 1 none), (8, .sl items.nl (items.l.map I) (zsl items.nl 1) none), (9, I ((items.l.length : Nat) : Int)), (10, I ((i3 : Nat) : Int))], [(0, ⟨[.agg [.sl e.items.nl (e.items.l.map S_Item.D) (zsl e.items.nl 4) none, I e.whole.lo, I e.whole.hi]], 3, false⟩), (1, ⟨va3_0.map I, 1, false⟩)], 2, 0⟩ = some (lr_orders_gains_3 e items (orders_gains_3a e rest3 va3_0)) := by
  intro rest3
  induction rest3 with
  | nil =>
    intro i3 va3_0 hd3 hi3 hall hg3_va3_0 hL3
    unfold orders_gains_3a
    obtain rfl : i3 = items.l.length := nil_eq hd3 hi3
    exact zH [.dec false] (And.intro (lt_no hd3) trivial) (by kernel_rfl)
  | cons x3 rest3 ih =>
    intro i3 va3_0 hd3 hi3 hall hg3_va3_0 hL3
    have hlt3 := zv hd3
    have hbx := hall x3 (mem_drop hd3)
    unfold orders_gains_3a
    exact po_turn' (ks := [2, 5, 8, 9, 10]) (st' := (sd41 e items i3 x3 va3_0)) [.dec true, .el (I x3), .el (.agg [I ((GS.at e.items x3).now.lo), I ((GS.at e.items x3).now.hi), I ((GS.at e.items x3).cost), I ((GS.at e.items x3).error)]), .pure (I (zq (GS.at e.items x3))), .op (some 22) ⟨.lsl 3 0 ((va3_0 ++ [(zq (GS.at e.items x3))]).length) 1 none, [(1, none), (3, some ⟨(va3_0 ++ [(zq (GS.at e.items x3))]).map I, 1, false⟩)], [1, 2], 4⟩, .rw 23 (I ((i3 + 1 : Nat) : Int))] (And.intro (inc_rw (i := i3) (by have := zv hd3; omega)) (And.intro (app_row (f := I) (te := ty3) (gO := zE [(0, ⟨[.agg [.sl e.items.nl (e.items.l.map S_Item.D) (zsl e.items.nl 4) none, I e.whole.lo, I e.whole.hi]], 3, false⟩), (1, ⟨va3_0.map I, 1, false⟩), (2, ⟨[I (zq (GS.at e.items x3))], 1, false⟩)]) (nxt := 3) (o := 1) (o2 := 2) (fz := false) zN va3_0 (zq (GS.at e.items x3)) (by kernel_rfl) (by kernel_rfl) rfl (by kernel_rfl) (by decide) ⟨by simp only [ty3, big] <;> (first | assumption | omega | (simp only [z8] at * <;> omega) | (simp only [z5, z6, GS.some_l, List.length_set, List.length_append, List.length_cons, List.length_nil] at * <;> first | with_reducible assumption | omega) | (simp only [z5, z6, GS.some_l, List.length_set, List.length_append, List.length_cons, List.length_nil, z8] at * <;> first | with_reducible assumption | omega) | (simp at * <;> omega)), by simp only [big] <;> (first | assumption | omega | (simp only [z8] at * <;> omega) | (simp only [z5, z6, GS.some_l, List.length_set, List.length_append, List.length_cons, List.length_nil] at * <;> first | with_reducible assumption | omega) | (simp only [z5, z6, GS.some_l, List.length_set, List.length_append, List.length_cons, List.length_nil, z8] at * <;> first | with_reducible assumption | omega) | (simp at * <;> omega))⟩) (And.intro (T_orders_gain (GS.at e.items x3)) (And.intro (el_in (s := e.items) (f := S_Item.D) (k := 4) (i := x3) (by first | assumption | omega | (simp only [z8] at * <;> omega) | (simp only [z5, z6, GS.some_l, List.length_set, List.length_append, List.length_cons, List.length_nil] at * <;> first | with_reducible assumption | omega) | (simp only [z5, z6, GS.some_l, List.length_set, List.length_append, List.length_cons, List.length_nil, z8] at * <;> first | with_reducible assumption | omega) | (simp at * <;> omega)) (by first | assumption | omega | (simp only [z8] at * <;> omega) | (simp only [z5, z6, GS.some_l, List.length_set, List.length_append, List.length_cons, List.length_nil] at * <;> first | with_reducible assumption | omega) | (simp only [z5, z6, GS.some_l, List.length_set, List.length_append, List.length_cons, List.length_nil, z8] at * <;> first | with_reducible assumption | omega) | (simp at * <;> omega))) (And.intro (el_at (s := items) (f := I) (k := 1) hd3) (And.intro (lt_at hd3) trivial)))))) (by kernel_rfl) (by (simp only [sd41, go_sem, Nat.reduceAdd, Nat.reduceEqDiff, Nat.reduceLT, Nat.reduceLeDiff, bI2, zN.idsL, zN.renL, zN.snapAll, zi.idsL, zi.renL, zi.snapAll]) <;> rfl) (ih (i3 + 1) (va3_0 ++ [(zq (GS.at e.items x3))]) (zA hd3) (zv hd3) (by first | assumption | omega | (simp only [z8] at * <;> omega) | (simp only [z5, z6, GS.some_l, List.length_set, List.length_append, List.length_cons, List.length_nil] at * <;> first | with_reducible assumption | omega) | (simp only [z5, z6, GS.some_l, List.length_set, List.length_append, List.length_cons, List.length_nil, z8] at * <;> first | with_reducible assumption | omega) | (simp at * <;> omega)) (by first | assumption | omega | (simp only [z8] at * <;> omega) | (simp only [z5, z6, GS.some_l, List.length_set, List.length_append, List.length_cons, List.length_nil] at * <;> first | with_reducible assumption | omega) | (simp only [z5, z6, GS.some_l, List.length_set, List.length_append, List.length_cons, List.length_nil, z8] at * <;> first | with_reducible assumption | omega) | (simp at * <;> omega)) (by first | assumption | omega | (simp only [z8] at * <;> omega) | (simp only [z5, z6, GS.some_l, List.length_set, List.length_append, List.length_cons, List.length_nil] at * <;> first | with_reducible assumption | omega) | (simp only [z5, z6, GS.some_l, List.length_set, List.length_append, List.length_cons, List.length_nil, z8] at * <;> first | with_reducible assumption | omega) | (simp at * <;> omega))) (by kernel_rfl)
theorem ivt_orders_gains_3a (e : S_Estate) (items : GS Int) : ∀ (rest3 : List Int) (i3 : Nat) (va3_0 : List Int) (hd3 : items.l.drop i3 = rest3) (hi3 : i3 ≤ items.l.length) (hall : ∀ i ∈ items.l, 0 ≤ i ∧ i < ((e.items.l.length : Nat) : Int)) (hg3_va3_0 : va3_0.length ≤ i3) (hL3 : items.l.length ≤ 1099511627776), iv_orders_gains_3 e items (orders_gains_3a e rest3 va3_0) := by
  intro rest3
  induction rest3 with
  | nil =>
    intro i3 va3_0 hd3 hi3 hall hg3_va3_0 hL3
    unfold orders_gains_3a
    obtain rfl : i3 = items.l.length := nil_eq hd3 hi3
    exact hg3_va3_0
  | cons x3 rest3 ih =>
    intro i3 va3_0 hd3 hi3 hall hg3_va3_0 hL3
    have hlt3 := zv hd3
    have hbx := hall x3 (mem_drop hd3)
    unfold orders_gains_3a
    exact ih (i3 + 1) (va3_0 ++ [(zq (GS.at e.items x3))]) (zA hd3) (zv hd3) (by first | assumption | omega | (simp only [z8] at * <;> omega) | (simp only [z5, z6, GS.some_l, List.length_set, List.length_append, List.length_cons, List.length_nil] at * <;> first | with_reducible assumption | omega) | (simp only [z5, z6, GS.some_l, List.length_set, List.length_append, List.length_cons, List.length_nil, z8] at * <;> first | with_reducible assumption | omega) | (simp at * <;> omega)) (by first | assumption | omega | (simp only [z8] at * <;> omega) | (simp only [z5, z6, GS.some_l, List.length_set, List.length_append, List.length_cons, List.length_nil] at * <;> first | with_reducible assumption | omega) | (simp only [z5, z6, GS.some_l, List.length_set, List.length_append, List.length_cons, List.length_nil, z8] at * <;> first | with_reducible assumption | omega) | (simp at * <;> omega)) (by first | assumption | omega | (simp only [z8] at * <;> omega) | (simp only [z5, z6, GS.some_l, List.length_set, List.length_append, List.length_cons, List.length_nil] at * <;> first | with_reducible assumption | omega) | (simp only [z5, z6, GS.some_l, List.length_set, List.length_append, List.length_cons, List.length_nil, z8] at * <;> first | with_reducible assumption | omega) | (simp at * <;> omega))
theorem lp_orders_gains_3 (e : S_Estate) (items : GS Int) : ∀ (rest3 : List Int) (i3 : Nat) (hd3 : items.l.drop i3 = rest3) (hi3 : i3 ≤ items.l.length) (hall : ∀ i ∈ items.l, 0 ≤ i ∧ i < ((e.items.l.length : Nat) : Int)) (hL3 : items.l.length ≤ 1099511627776), (lim cfg).loop 52 lp52_3 ⟨25, [(2, .lref 0 0 3 0), (5, .sl true [] 0 none), (8, .sl items.nl (items.l.map I) (zsl items.nl 1) none), (9, I ((items.l.length : Nat) : Int)), (10, I ((i3 : Nat) : Int))], [(0, ⟨[.agg [.sl e.items.nl (e.items.l.map S_Item.D) (zsl e.items.nl 4) none, I e.whole.lo, I e.whole.hi]], 3, false⟩)], 1, 0⟩ = some (lr_orders_gains_3 e items (orders_gains_3 e rest3)) := by
  intro rest3
  induction rest3 with
  | nil =>
    intro i3 hd3 hi3 hall hL3
    unfold orders_gains_3
    obtain rfl : i3 = items.l.length := nil_eq hd3 hi3
    exact zH [.dec false] (And.intro (lt_no hd3) trivial) (by kernel_rfl)
  | cons x3 rest3 ih =>
    intro i3 hd3 hi3 hall hL3
    have hlt3 := zv hd3
    have hbx := hall x3 (mem_drop hd3)
    unfold orders_gains_3
    dsimp only
    exact po_turn [.dec true, .el (I x3), .el (.agg [I ((GS.at e.items x3).now.lo), I ((GS.at e.items x3).now.hi), I ((GS.at e.items x3).cost), I ((GS.at e.items x3).error)]), .pure (I (zq (GS.at e.items x3))), .rw 23 (I ((i3 + 1 : Nat) : Int))] (And.intro (inc_rw (i := i3) (by have := zv hd3; omega)) (And.intro (T_orders_gain (GS.at e.items x3)) (And.intro (el_in (s := e.items) (f := S_Item.D) (k := 4) (i := x3) (by first | assumption | omega | (simp only [z8] at * <;> omega) | (simp only [z5, z6, GS.some_l, List.length_set, List.length_append, List.length_cons, List.length_nil] at * <;> first | with_reducible assumption | omega) | (simp only [z5, z6, GS.some_l, List.length_set, List.length_append, List.length_cons, List.length_nil, z8] at * <;> first | with_reducible assumption | omega) | (simp at * <;> omega)) (by first | assumption | omega | (simp only [z8] at * <;> omega) | (simp only [z5, z6, GS.some_l, List.length_set, List.length_append, List.length_cons, List.length_nil] at * <;> first | with_reducible assumption | omega) | (simp only [z5, z6, GS.some_l, List.length_set, List.length_append, List.length_cons, List.length_nil, z8] at * <;> first | with_reducible assumption | omega) | (simp at * <;> omega))) (And.intro (el_at (s := items) (f := I) (k := 1) hd3) (And.intro (lt_at hd3) trivial))))) (lp_orders_gains_3a e items _ (i3 + 1) [(zq (GS.at e.items x3))] (zA hd3) (zv hd3) (by first | assumption | omega | (simp only [z8] at * <;> omega) | (simp only [z5, z6, GS.some_l, List.length_set, List.length_append, List.length_cons, List.length_nil] at * <;> first | with_reducible assumption | omega) | (simp only [z5, z6, GS.some_l, List.length_set, List.length_append, List.length_cons, List.length_nil, z8] at * <;> first | with_reducible assumption | omega) | (simp at * <;> omega)) (by first | assumption | omega | (simp only [z8] at * <;> omega) | (simp only [z5, z6, GS.some_l, List.length_set, List.length_append, List.length_cons, List.length_nil] at * <;> first | with_reducible assumption | omega) | (simp only [z5, z6, GS.some_l, List.length_set, List.length_append, List.length_cons, List.length_nil, z8] at * <;> first | with_reducible assumption | omega) | (simp at * <;> omega)) (by first | assumption | omega | (simp only [z8] at * <;> omega) | (simp only [z5, z6, GS.some_l, List.length_set, List.length_append, List.length_cons, List.length_nil] at * <;> first | with_reducible assumption | omega) | (simp only [z5, z6, GS.some_l, List.length_set, List.length_append, List.length_cons, List.length_nil, z8] at * <;> first | with_reducible assumption | omega) | (simp at * <;> omega))) (by kernel_rfl)
theorem ivt_orders_gains_3 (e : S_Estate) (items : GS Int) : ∀ (rest3 : List Int) (i3 : Nat) (hd3 : items.l.drop i3 = rest3) (hi3 : i3 ≤ items.l.length) (hall : ∀ i ∈ items.l, 0 ≤ i ∧ i < ((e.items.l.length : Nat) : Int)) (hL3 : items.l.length ≤ 1099511627776), iv_orders_gains_3 e items (orders_gains_3 e rest3) := by
  intro rest3
  induction rest3 with
  | nil =>
    intro i3 hd3 hi3 hall hL3
    unfold orders_gains_3
    obtain rfl : i3 = items.l.length := nil_eq hd3 hi3
    exact trivial
  | cons x3 rest3 ih =>
    intro i3 hd3 hi3 hall hL3
    have hlt3 := zv hd3
    have hbx := hall x3 (mem_drop hd3)
    unfold orders_gains_3
    dsimp only
    exact ivt_orders_gains_3a e items _ (i3 + 1) [(zq (GS.at e.items x3))] (zA hd3) (zv hd3) (by first | assumption | omega | (simp only [z8] at * <;> omega) | (simp only [z5, z6, GS.some_l, List.length_set, List.length_append, List.length_cons, List.length_nil] at * <;> first | with_reducible assumption | omega) | (simp only [z5, z6, GS.some_l, List.length_set, List.length_append, List.length_cons, List.length_nil, z8] at * <;> first | with_reducible assumption | omega) | (simp at * <;> omega)) (by first | assumption | omega | (simp only [z8] at * <;> omega) | (simp only [z5, z6, GS.some_l, List.length_set, List.length_append, List.length_cons, List.length_nil] at * <;> first | with_reducible assumption | omega) | (simp only [z5, z6, GS.some_l, List.length_set, List.length_append, List.length_cons, List.length_nil, z8] at * <;> first | with_reducible assumption | omega) | (simp at * <;> omega)) (by first | assumption | omega | (simp only [z8] at * <;> omega) | (simp only [z5, z6, GS.some_l, List.length_set, List.length_append, List.length_cons, List.length_nil] at * <;> first | with_reducible assumption | omega) | (simp only [z5, z6, GS.some_l, List.length_set, List.length_append, List.length_cons, List.length_nil, z8] at * <;> first | with_reducible assumption | omega) | (simp at * <;> omega))

def zg (e : S_Estate) (items : GS Int) : (GS Int) :=
  match orders_gains_3 e items.l with
  | .x0 va3_0 =>
    GS.some va3_0
  | .x1 =>
    GS.nil

def sd42 (e : S_Estate) (items : GS Int) (va3_0 : List Int) : St := ⟨25, [(11, B false), (2, .lref 0 0 3 0), (5, .lsl 1 0 va3_0.length 1 none), (8, .sl items.nl (items.l.map I) (zsl items.nl 1) none), (9, I ((items.l.length : Nat) : Int)), (10, I ((items.l.length : Nat) : Int))], [(0, ⟨[.agg [.sl e.items.nl (e.items.l.map S_Item.D) (zsl e.items.nl 4) none, I e.whole.lo, I e.whole.hi]], 3, false⟩), (1, ⟨va3_0.map I, 1, false⟩)], 2, 0⟩

def sd43 (e : S_Estate) (items : GS Int) : St := ⟨25, [(11, B false), (2, .lref 0 0 3 0), (5, .sl true [] 0 none), (8, .sl items.nl (items.l.map I) (zsl items.nl 1) none), (9, I ((items.l.length : Nat) : Int)), (10, I ((items.l.length : Nat) : Int))], [(0, ⟨[.agg [.sl e.items.nl (e.items.l.map S_Item.D) (zsl e.items.nl 4) none, I e.whole.lo, I e.whole.hi]], 3, false⟩)], 1, 0⟩

theorem T_orders_gains (e : S_Estate) (items : GS Int) (hall : ∀ i ∈ items.l, 0 ≤ i ∧ i < ((e.items.l.length : Nat) : Int)) (hL_items : items.l.length ≤ 1099511627776) : (lim cfg).pure 52 [S_Estate.D e, GS.D I 1 items] = some (GS.D I 1 (zg e items)) := by
  unfold zg
  cases h1 : orders_gains_3 e items.l with
  | x0 va3_0 =>
    try dsimp only
    have hv_h1 := ivt_orders_gains_3 e items items.l 0 (List.drop_zero) (Nat.zero_le _) (by first | assumption | omega | (simp only [z8] at * <;> omega) | (simp only [z5, z6, GS.some_l, List.length_set, List.length_append, List.length_cons, List.length_nil] at * <;> first | with_reducible assumption | omega) | (simp only [z5, z6, GS.some_l, List.length_set, List.length_append, List.length_cons, List.length_nil, z8] at * <;> first | with_reducible assumption | omega) | (simp at * <;> omega)) (by first | assumption | omega | (simp only [z8] at * <;> omega) | (simp only [z5, z6, GS.some_l, List.length_set, List.length_append, List.length_cons, List.length_nil] at * <;> first | with_reducible assumption | omega) | (simp only [z5, z6, GS.some_l, List.length_set, List.length_append, List.length_cons, List.length_nil, z8] at * <;> first | with_reducible assumption | omega) | (simp at * <;> omega))
    rw [h1] at hv_h1
    have hv_h1_0 := hv_h1
    try dsimp only [iv_orders_gains_3] at hv_h1_0
    exact po_pureS [.rw 9 (I ((items.l.length : Nat) : Int)), .loop (.exit 0) (sd42 e items va3_0)] [(1, .sl false (va3_0.map I) 1 none, [1])] (And.intro (snap_row (gO := zE [(0, ⟨[.agg [.sl e.items.nl (e.items.l.map S_Item.D) (zsl e.items.nl 4) none, I e.whole.lo, I e.whole.hi]], 3, false⟩), (1, ⟨va3_0.map I, 1, false⟩)]) (o := 1) (len := va3_0.length) (cap := none) (fz := false) zN va3_0 (by kernel_rfl) (by first | assumption | omega | (simp only [z8] at * <;> omega) | (simp only [z5, z6, GS.some_l, List.length_set, List.length_append, List.length_cons, List.length_nil] at * <;> first | with_reducible assumption | omega) | (simp only [z5, z6, GS.some_l, List.length_set, List.length_append, List.length_cons, List.length_nil, z8] at * <;> first | with_reducible assumption | omega) | (simp at * <;> omega))) (And.intro (po_lr (q := lr_orders_gains_3 e items) (lp_orders_gains_3 e items items.l 0 (List.drop_zero) (Nat.zero_le _) (by first | assumption | omega | (simp only [z8] at * <;> omega) | (simp only [z5, z6, GS.some_l, List.length_set, List.length_append, List.length_cons, List.length_nil] at * <;> first | with_reducible assumption | omega) | (simp only [z5, z6, GS.some_l, List.length_set, List.length_append, List.length_cons, List.length_nil, z8] at * <;> first | with_reducible assumption | omega) | (simp at * <;> omega)) (by first | assumption | omega | (simp only [z8] at * <;> omega) | (simp only [z5, z6, GS.some_l, List.length_set, List.length_append, List.length_cons, List.length_nil] at * <;> first | with_reducible assumption | omega) | (simp only [z5, z6, GS.some_l, List.length_set, List.length_append, List.length_cons, List.length_nil, z8] at * <;> first | with_reducible assumption | omega) | (simp at * <;> omega))) h1) (And.intro (zn I items) trivial))) (by kernel_rfl)
  | x1 =>
    try dsimp only
    exact zh [.rw 9 (I ((items.l.length : Nat) : Int)), .loop (.exit 0) (sd43 e items)] (And.intro (po_lr (q := lr_orders_gains_3 e items) (lp_orders_gains_3 e items items.l 0 (List.drop_zero) (Nat.zero_le _) (by first | assumption | omega | (simp only [z8] at * <;> omega) | (simp only [z5, z6, GS.some_l, List.length_set, List.length_append, List.length_cons, List.length_nil] at * <;> first | with_reducible assumption | omega) | (simp only [z5, z6, GS.some_l, List.length_set, List.length_append, List.length_cons, List.length_nil, z8] at * <;> first | with_reducible assumption | omega) | (simp at * <;> omega)) (by first | assumption | omega | (simp only [z8] at * <;> omega) | (simp only [z5, z6, GS.some_l, List.length_set, List.length_append, List.length_cons, List.length_nil] at * <;> first | with_reducible assumption | omega) | (simp only [z5, z6, GS.some_l, List.length_set, List.length_append, List.length_cons, List.length_nil, z8] at * <;> first | with_reducible assumption | omega) | (simp at * <;> omega))) h1) (And.intro (zn I items) trivial)) (by kernel_rfl)

theorem gains_l (e : S_Estate) (items : GS Int) : (zg e items).l = items.l.map (fun i => zq (e.items.at i)) ∧ (zg e items).nl = items.l.isEmpty := by
  have key : ∀ (l v : List Int), orders_gains_3a e l v = .x0 (v ++ l.map (fun i => zq (e.items.at i))) := by
    intro l
    induction l with
    | nil => intro v; simp [orders_gains_3a]
    | cons x l ih => intro v; rw [orders_gains_3a, ih]; simp
  unfold zg
  cases items.l with
  | nil => exact ⟨rfl, rfl⟩
  | cons x l => rw [orders_gains_3, key]; exact ⟨rfl, rfl⟩
theorem z6 (e : S_Estate) (items : GS Int) : (zg e items).l.length = items.l.length := by rw [(gains_l e items).1, List.length_map]


def orders_worst (e : S_Estate) (items : GS Int) : Int :=
  ((zz (ze e (zj (zg e items)))).1)

theorem T_orders_worst (e : S_Estate) (items : GS Int) (hall : ∀ i ∈ items.l, 0 ≤ i ∧ i < ((e.items.l.length : Nat) : Int)) (hL_items : items.l.length ≤ 1099511627776) (hL_e_items : e.items.l.length ≤ 9223372036854775807) : (lim cfg).pure 61 [S_Estate.D e, GS.D I 1 items] = some (I (orders_worst e items)) := by
  unfold orders_worst
  exact zh [.pure (.sl ((zg e items).nl) (((zg e items).l).map I) (zsl ((zg e items).nl) 1) none), .pure (I (zj (zg e items))), .pure (.agg [I ((ze e (zj (zg e items))).at_.lo), I ((ze e (zj (zg e items))).at_.hi), I ((ze e (zj (zg e items))).room_), I ((ze e (zj (zg e items))).whole_.lo), I ((ze e (zj (zg e items))).whole_.hi)]), .pure (.tup [I ((zz (ze e (zj (zg e items)))).1), I ((zz (ze e (zj (zg e items)))).2)])] (And.intro (T_orders_window_widest (ze e (zj (zg e items)))) (And.intro (T_orders_windowOf e (zj (zg e items)) (by first | assumption | omega | (simp only [z8] at * <;> omega) | (simp only [z5, z6, GS.some_l, List.length_set, List.length_append, List.length_cons, List.length_nil] at * <;> first | with_reducible assumption | omega) | (simp only [z5, z6, GS.some_l, List.length_set, List.length_append, List.length_cons, List.length_nil, z8] at * <;> first | with_reducible assumption | omega) | (simp at * <;> omega))) (And.intro (T_orders_total (zg e items) (by first | assumption | omega | (simp only [z8] at * <;> omega) | (simp only [z5, z6, GS.some_l, List.length_set, List.length_append, List.length_cons, List.length_nil] at * <;> first | with_reducible assumption | omega) | (simp only [z5, z6, GS.some_l, List.length_set, List.length_append, List.length_cons, List.length_nil, z8] at * <;> first | with_reducible assumption | omega) | (simp at * <;> omega))) (And.intro (T_orders_gains e items (by first | assumption | omega | (simp only [z8] at * <;> omega) | (simp only [z5, z6, GS.some_l, List.length_set, List.length_append, List.length_cons, List.length_nil] at * <;> first | with_reducible assumption | omega) | (simp only [z5, z6, GS.some_l, List.length_set, List.length_append, List.length_cons, List.length_nil, z8] at * <;> first | with_reducible assumption | omega) | (simp at * <;> omega)) (by first | assumption | omega | (simp only [z8] at * <;> omega) | (simp only [z5, z6, GS.some_l, List.length_set, List.length_append, List.length_cons, List.length_nil] at * <;> first | with_reducible assumption | omega) | (simp only [z5, z6, GS.some_l, List.length_set, List.length_append, List.length_cons, List.length_nil, z8] at * <;> first | with_reducible assumption | omega) | (simp at * <;> omega))) trivial)))) (by kernel_rfl)

def orders_Worst (e : S_Estate) (items : GS Int) : Int × Int :=
  bif ((zp e items) != 0) then
    (0, (zp e items))
  else
    ((orders_worst e items), 0)

theorem T_orders_Worst (e : S_Estate) (items : GS Int) (hL : items.l.length ≤ 9223372036854775807) : (lim cfg).pure 23 [S_Estate.D e, GS.D I 1 items] = some (.tup [I ((orders_Worst e items).1), I ((orders_Worst e items).2)]) := by
  unfold orders_Worst
  cases h1 : ((zp e items) != 0) with
  | true =>
    have g1 := y0 h1
    exact zh [.pure (I (zp e items)), .dec true] (And.intro h1 (And.intro (zT e items (by first | assumption | omega | (simp only [z8] at * <;> omega) | (simp only [z5, z6, GS.some_l, List.length_set, List.length_append, List.length_cons, List.length_nil] at * <;> first | with_reducible assumption | omega) | (simp only [z5, z6, GS.some_l, List.length_set, List.length_append, List.length_cons, List.length_nil, z8] at * <;> first | with_reducible assumption | omega) | (simp at * <;> omega))) trivial)) (by kernel_rfl)
  | false =>
    obtain ⟨g1, gb1⟩ := And.intro (right_ok (by assumption) (zF h1)) (right_all (by assumption) (zF h1))
    exact zh [.pure (I (zp e items)), .dec false, .pure (I (orders_worst e items))] (And.intro (T_orders_worst e items (by first | assumption | omega | (simp only [z8] at * <;> omega) | (simp only [z5, z6, GS.some_l, List.length_set, List.length_append, List.length_cons, List.length_nil] at * <;> first | with_reducible assumption | omega) | (simp only [z5, z6, GS.some_l, List.length_set, List.length_append, List.length_cons, List.length_nil, z8] at * <;> first | with_reducible assumption | omega) | (simp at * <;> omega)) (by first | assumption | omega | (simp only [z8] at * <;> omega) | (simp only [z5, z6, GS.some_l, List.length_set, List.length_append, List.length_cons, List.length_nil] at * <;> first | with_reducible assumption | omega) | (simp only [z5, z6, GS.some_l, List.length_set, List.length_append, List.length_cons, List.length_nil, z8] at * <;> first | with_reducible assumption | omega) | (simp at * <;> omega)) (by first | assumption | omega | (simp only [z8] at * <;> omega) | (simp only [z5, z6, GS.some_l, List.length_set, List.length_append, List.length_cons, List.length_nil] at * <;> first | with_reducible assumption | omega) | (simp only [z5, z6, GS.some_l, List.length_set, List.length_append, List.length_cons, List.length_nil, z8] at * <;> first | with_reducible assumption | omega) | (simp at * <;> omega))) (And.intro h1 (And.intro (zT e items (by first | assumption | omega | (simp only [z8] at * <;> omega) | (simp only [z5, z6, GS.some_l, List.length_set, List.length_append, List.length_cons, List.length_nil] at * <;> first | with_reducible assumption | omega) | (simp only [z5, z6, GS.some_l, List.length_set, List.length_append, List.length_cons, List.length_nil, z8] at * <;> first | with_reducible assumption | omega) | (simp at * <;> omega))) trivial))) (by kernel_rfl)

noncomputable def lp65_3 : Code := subC [1, 1, 0, 1, 0, 0] (bodyC Tryz.f65)

inductive LR_orders_cost_3 where
  | x0 (v3_0 : Int)
instance : Inhabited LR_orders_cost_3 := ⟨.x0 default⟩
def orders_cost_3 (e : S_Estate) : List Int → Int → LR_orders_cost_3
  | [], v3_0 => .x0 v3_0
  | x3 :: rest3, v3_0 =>
    orders_cost_3 e rest3 (w64 (v3_0 + ((GS.at e.items x3).cost)))
def lr_orders_cost_3 (e : S_Estate) (items : GS Int) : LR_orders_cost_3 → Exit × St
  | .x0 v3_0 => ((.exit 0), ⟨24, [(11, B false), (2, .lref 0 0 3 0), (5, I v3_0), (8, .sl items.nl (items.l.map I) (zsl items.nl 1) none), (9, I ((items.l.length : Nat) : Int)), (10, I ((items.l.length : Nat) : Int))], [(0, ⟨[.agg [.sl e.items.nl (e.items.l.map S_Item.D) (zsl e.items.nl 4) none, I e.whole.lo, I e.whole.hi]], 3, false⟩)], 1, 0⟩)
theorem lp_orders_cost_3 (e : S_Estate) (items : GS Int) : ∀ (rest3 : List Int) (i3 : Nat) (v3_0 : Int) (hd3 : items.l.drop i3 = rest3) (hi3 : i3 ≤ items.l.length) (hall : ∀ i ∈ items.l, 0 ≤ i ∧ i < ((e.items.l.length : Nat) : Int)) (hL3 : items.l.length ≤ 9223372036854775807), (lim cfg).loop 65 lp65_3 ⟨24, [(2, .lref 0 0 3 0), (5, I v3_0), (8, .sl items.nl (items.l.map I) (zsl items.nl 1) none), (9, I ((items.l.length : Nat) : Int)), (10, I ((i3 : Nat) : Int))], [(0, ⟨[.agg [.sl e.items.nl (e.items.l.map S_Item.D) (zsl e.items.nl 4) none, I e.whole.lo, I e.whole.hi]], 3, false⟩)], 1, 0⟩ = some (lr_orders_cost_3 e items (orders_cost_3 e rest3 v3_0)) := by
  intro rest3
  induction rest3 with
  | nil =>
    intro i3 v3_0 hd3 hi3 hall hL3
    unfold orders_cost_3
    obtain rfl : i3 = items.l.length := nil_eq hd3 hi3
    exact zH [.dec false] (And.intro (lt_no hd3) trivial) (by kernel_rfl)
  | cons x3 rest3 ih =>
    intro i3 v3_0 hd3 hi3 hall hL3
    have hlt3 := zv hd3
    have hbx := hall x3 (mem_drop hd3)
    unfold orders_cost_3
    exact po_turn [.dec true, .el (I x3), .el (.agg [I ((GS.at e.items x3).now.lo), I ((GS.at e.items x3).now.hi), I ((GS.at e.items x3).cost), I ((GS.at e.items x3).error)]), .rw 22 (I ((i3 + 1 : Nat) : Int))] (And.intro (inc_rw (i := i3) (by have := zv hd3; omega)) (And.intro (el_in (s := e.items) (f := S_Item.D) (k := 4) (i := x3) (by first | assumption | omega | (simp only [z8] at * <;> omega) | (simp only [z5, z6, GS.some_l, List.length_set, List.length_append, List.length_cons, List.length_nil] at * <;> first | with_reducible assumption | omega) | (simp only [z5, z6, GS.some_l, List.length_set, List.length_append, List.length_cons, List.length_nil, z8] at * <;> first | with_reducible assumption | omega) | (simp at * <;> omega)) (by first | assumption | omega | (simp only [z8] at * <;> omega) | (simp only [z5, z6, GS.some_l, List.length_set, List.length_append, List.length_cons, List.length_nil] at * <;> first | with_reducible assumption | omega) | (simp only [z5, z6, GS.some_l, List.length_set, List.length_append, List.length_cons, List.length_nil, z8] at * <;> first | with_reducible assumption | omega) | (simp at * <;> omega))) (And.intro (el_at (s := items) (f := I) (k := 1) hd3) (And.intro (lt_at hd3) trivial)))) (ih (i3 + 1) (w64 (v3_0 + ((GS.at e.items x3).cost))) (zA hd3) (zv hd3) (by first | assumption | omega | (simp only [z8] at * <;> omega) | (simp only [z5, z6, GS.some_l, List.length_set, List.length_append, List.length_cons, List.length_nil] at * <;> first | with_reducible assumption | omega) | (simp only [z5, z6, GS.some_l, List.length_set, List.length_append, List.length_cons, List.length_nil, z8] at * <;> first | with_reducible assumption | omega) | (simp at * <;> omega)) (by first | assumption | omega | (simp only [z8] at * <;> omega) | (simp only [z5, z6, GS.some_l, List.length_set, List.length_append, List.length_cons, List.length_nil] at * <;> first | with_reducible assumption | omega) | (simp only [z5, z6, GS.some_l, List.length_set, List.length_append, List.length_cons, List.length_nil, z8] at * <;> first | with_reducible assumption | omega) | (simp at * <;> omega))) (by kernel_rfl)

def orders_cost (e : S_Estate) (items : GS Int) : Int :=
  match orders_cost_3 e items.l 0 with
  | .x0 v3_0 =>
    v3_0

def sd44 (e : S_Estate) (items : GS Int) (v3_0 : Int) : St := ⟨24, [(11, B false), (2, .lref 0 0 3 0), (5, I v3_0), (8, .sl items.nl (items.l.map I) (zsl items.nl 1) none), (9, I ((items.l.length : Nat) : Int)), (10, I ((items.l.length : Nat) : Int))], [(0, ⟨[.agg [.sl e.items.nl (e.items.l.map S_Item.D) (zsl e.items.nl 4) none, I e.whole.lo, I e.whole.hi]], 3, false⟩)], 1, 0⟩

theorem T_orders_cost (e : S_Estate) (items : GS Int) (hall : ∀ i ∈ items.l, 0 ≤ i ∧ i < ((e.items.l.length : Nat) : Int)) (hL_items : items.l.length ≤ 9223372036854775807) : (lim cfg).pure 65 [S_Estate.D e, GS.D I 1 items] = some (I (orders_cost e items)) := by
  unfold orders_cost
  cases h1 : orders_cost_3 e items.l 0 with
  | x0 v3_0 =>
    try dsimp only
    exact zh [.rw 9 (I ((items.l.length : Nat) : Int)), .loop (.exit 0) (sd44 e items v3_0)] (And.intro (po_lr (q := lr_orders_cost_3 e items) (lp_orders_cost_3 e items items.l 0 0 (List.drop_zero) (Nat.zero_le _) (by first | assumption | omega | (simp only [z8] at * <;> omega) | (simp only [z5, z6, GS.some_l, List.length_set, List.length_append, List.length_cons, List.length_nil] at * <;> first | with_reducible assumption | omega) | (simp only [z5, z6, GS.some_l, List.length_set, List.length_append, List.length_cons, List.length_nil, z8] at * <;> first | with_reducible assumption | omega) | (simp at * <;> omega)) (by first | assumption | omega | (simp only [z8] at * <;> omega) | (simp only [z5, z6, GS.some_l, List.length_set, List.length_append, List.length_cons, List.length_nil] at * <;> first | with_reducible assumption | omega) | (simp only [z5, z6, GS.some_l, List.length_set, List.length_append, List.length_cons, List.length_nil, z8] at * <;> first | with_reducible assumption | omega) | (simp at * <;> omega))) h1) (And.intro (zn I items) trivial)) (by kernel_rfl)

def orders_Cost (e : S_Estate) (items : GS Int) : Int × Int :=
  bif ((zp e items) != 0) then
    (0, (zp e items))
  else
    ((orders_cost e items), 0)

theorem T_orders_Cost (e : S_Estate) (items : GS Int) (hL : items.l.length ≤ 9223372036854775807) : (lim cfg).pure 27 [S_Estate.D e, GS.D I 1 items] = some (.tup [I ((orders_Cost e items).1), I ((orders_Cost e items).2)]) := by
  unfold orders_Cost
  cases h1 : ((zp e items) != 0) with
  | true =>
    have g1 := y0 h1
    exact zh [.pure (I (zp e items)), .dec true] (And.intro h1 (And.intro (zT e items (by first | assumption | omega | (simp only [z8] at * <;> omega) | (simp only [z5, z6, GS.some_l, List.length_set, List.length_append, List.length_cons, List.length_nil] at * <;> first | with_reducible assumption | omega) | (simp only [z5, z6, GS.some_l, List.length_set, List.length_append, List.length_cons, List.length_nil, z8] at * <;> first | with_reducible assumption | omega) | (simp at * <;> omega))) trivial)) (by kernel_rfl)
  | false =>
    obtain ⟨g1, gb1⟩ := And.intro (right_ok (by assumption) (zF h1)) (right_all (by assumption) (zF h1))
    exact zh [.pure (I (zp e items)), .dec false, .pure (I (orders_cost e items))] (And.intro (T_orders_cost e items (by first | assumption | omega | (simp only [z8] at * <;> omega) | (simp only [z5, z6, GS.some_l, List.length_set, List.length_append, List.length_cons, List.length_nil] at * <;> first | with_reducible assumption | omega) | (simp only [z5, z6, GS.some_l, List.length_set, List.length_append, List.length_cons, List.length_nil, z8] at * <;> first | with_reducible assumption | omega) | (simp at * <;> omega)) (by first | assumption | omega | (simp only [z8] at * <;> omega) | (simp only [z5, z6, GS.some_l, List.length_set, List.length_append, List.length_cons, List.length_nil] at * <;> first | with_reducible assumption | omega) | (simp only [z5, z6, GS.some_l, List.length_set, List.length_append, List.length_cons, List.length_nil, z8] at * <;> first | with_reducible assumption | omega) | (simp at * <;> omega))) (And.intro h1 (And.intro (zT e items (by first | assumption | omega | (simp only [z8] at * <;> omega) | (simp only [z5, z6, GS.some_l, List.length_set, List.length_append, List.length_cons, List.length_nil] at * <;> first | with_reducible assumption | omega) | (simp only [z5, z6, GS.some_l, List.length_set, List.length_append, List.length_cons, List.length_nil, z8] at * <;> first | with_reducible assumption | omega) | (simp at * <;> omega))) trivial))) (by kernel_rfl)

noncomputable def lp77_3 : Code := subC [1, 1, 0, 1, 0, 0] (bodyC Tryz.f77)

def sd45 (e : S_Estate) (items : GS Int) (i3 : Nat) (x3 : Int) (va3_0 : Int) (va3_1 : List Int) : St := ⟨43, [(14, I ((i3 + 1 : Nat) : Int)), (41, I ((i3 + 1 : Nat) : Int)), (7, .lsl 4 0 ((va3_1 ++ [w64 ((w64 (((GS.at e.items x3).now.lo) + ((GS.at e.items x3).error))) + (zV va3_0 (zq (GS.at e.items x3))))]).length) 1 none), (40, .lsl 4 0 ((va3_1 ++ [w64 ((w64 (((GS.at e.items x3).now.lo) + ((GS.at e.items x3).error))) + (zV va3_0 (zq (GS.at e.items x3))))]).length) 1 none), (39, .lsl 3 0 1 1 (some 1)), (38, I (w64 ((w64 (((GS.at e.items x3).now.lo) + ((GS.at e.items x3).error))) + (zV va3_0 (zq (GS.at e.items x3)))))), (37, I (zV va3_0 (zq (GS.at e.items x3)))), (36, I (w64 (((GS.at e.items x3).now.lo) + ((GS.at e.items x3).error)))), (35, I ((GS.at e.items x3).error)), (34, .lref 2 0 4 3), (33, I ((GS.at e.items x3).now.lo)), (32, .lref 2 0 4 0), (31, .lref 2 0 4 0), (30, .lsl 1 0 va3_1.length 1 none), (2, I (w64 (va3_0 - (zV va3_0 (zq (GS.at e.items x3)))))), (29, I (w64 (va3_0 - (zV va3_0 (zq (GS.at e.items x3)))))), (28, I (zV va3_0 (zq (GS.at e.items x3)))), (27, I va3_0), (11, I (zV va3_0 (zq (GS.at e.items x3)))), (26, I (zV va3_0 (zq (GS.at e.items x3)))), (25, I (zq (GS.at e.items x3))), (24, .agg [I ((GS.at e.items x3).now.lo), I ((GS.at e.items x3).now.hi), I ((GS.at e.items x3).cost), I ((GS.at e.items x3).error)]), (23, I va3_0), (10, .lref 2 0 4 0), (22, .agg [I ((GS.at e.items x3).now.lo), I ((GS.at e.items x3).now.hi), I ((GS.at e.items x3).cost), I ((GS.at e.items x3).error)]), (21, .ptr (.agg [I ((GS.at e.items x3).now.lo), I ((GS.at e.items x3).now.hi), I ((GS.at e.items x3).cost), I ((GS.at e.items x3).error)])), (20, I x3), (19, .sl e.items.nl (e.items.l.map S_Item.D) (zsl e.items.nl 4) none), (18, .lref 0 0 3 0), (9, I x3), (17, I x3), (16, .ptr (I x3)), (15, B true), (2, I va3_0), (3, .lref 0 0 3 0), (7, .lsl 1 0 va3_1.length 1 none), (12, .sl items.nl (items.l.map I) (zsl items.nl 1) none), (13, I ((items.l.length : Nat) : Int)), (14, I ((i3 : Nat) : Int))], [(0, ⟨[.agg [.sl e.items.nl (e.items.l.map S_Item.D) (zsl e.items.nl 4) none, I e.whole.lo, I e.whole.hi]], 3, false⟩), (2, ⟨[.agg [I ((GS.at e.items x3).now.lo), I ((GS.at e.items x3).now.hi), I ((GS.at e.items x3).cost), I ((GS.at e.items x3).error)]], 4, false⟩), (3, ⟨[I (w64 ((w64 (((GS.at e.items x3).now.lo) + ((GS.at e.items x3).error))) + (zV va3_0 (zq (GS.at e.items x3)))))], 1, false⟩), (4, ⟨(va3_1 ++ [w64 ((w64 (((GS.at e.items x3).now.lo) + ((GS.at e.items x3).error))) + (zV va3_0 (zq (GS.at e.items x3))))]).map I, 1, false⟩)], 5, 0⟩

inductive LR_orders_shown_3 where
  | x0 (va3_0 : Int) (va3_1 : List Int)
  | x1
instance : Inhabited LR_orders_shown_3 := ⟨.x0 default default⟩
def orders_shown_3a (e : S_Estate) (s : Int) : List Int → Int → (List Int) → LR_orders_shown_3
  | [], va3_0, va3_1 => .x0 va3_0 va3_1
  | x3 :: rest3, va3_0, va3_1 =>
    orders_shown_3a e s rest3 (w64 (va3_0 - (zV va3_0 (zq (GS.at e.items x3))))) (va3_1 ++ [w64 ((w64 (((GS.at e.items x3).now.lo) + ((GS.at e.items x3).error))) + (zV va3_0 (zq (GS.at e.items x3))))])
def orders_shown_3 (e : S_Estate) (s : Int) : List Int → LR_orders_shown_3
  | [] => .x1
  | x3 :: rest3 =>
    orders_shown_3a e s rest3 (w64 (s - (zV s (zq (GS.at e.items x3))))) [w64 ((w64 (((GS.at e.items x3).now.lo) + ((GS.at e.items x3).error))) + (zV s (zq (GS.at e.items x3))))]
def lr_orders_shown_3 (e : S_Estate) (items : GS Int) (s : Int) : LR_orders_shown_3 → Exit × St
  | .x0 va3_0 va3_1 => ((.exit 0), ⟨43, [(15, B false), (2, I va3_0), (3, .lref 0 0 3 0), (7, .lsl 1 0 va3_1.length 1 none), (12, .sl items.nl (items.l.map I) (zsl items.nl 1) none), (13, I ((items.l.length : Nat) : Int)), (14, I ((items.l.length : Nat) : Int))], [(0, ⟨[.agg [.sl e.items.nl (e.items.l.map S_Item.D) (zsl e.items.nl 4) none, I e.whole.lo, I e.whole.hi]], 3, false⟩), (1, ⟨va3_1.map I, 1, false⟩)], 2, 0⟩)
  | .x1 => ((.exit 0), ⟨43, [(15, B false), (2, I s), (3, .lref 0 0 3 0), (7, .sl true [] 0 none), (12, .sl items.nl (items.l.map I) (zsl items.nl 1) none), (13, I ((items.l.length : Nat) : Int)), (14, I ((items.l.length : Nat) : Int))], [(0, ⟨[.agg [.sl e.items.nl (e.items.l.map S_Item.D) (zsl e.items.nl 4) none, I e.whole.lo, I e.whole.hi]], 3, false⟩)], 1, 0⟩)
def iv_orders_shown_3 (e : S_Estate) (items : GS Int) (s : Int) : LR_orders_shown_3 → Prop
  | .x0 va3_0 va3_1 => (va3_1.length ≤ items.l.length)
  | .x1 => True
theorem lp_orders_shown_3a (e : S_Estate) (items : GS Int) (s : Int) : ∀ (rest3 : List Int) (i3 : Nat) (va3_0 : Int) (va3_1 : List Int) (hd3 : items.l.drop i3 = rest3) (hi3 : i3 ≤ items.l.length) (hall : ∀ i ∈ items.l, 0 ≤ i ∧ i < ((e.items.l.length : Nat) : Int)) (hg3_va3_1 : va3_1.length ≤ i3) (hL3 : items.l.length ≤ 1099511627776), (lim cfg).loop 77 lp77_3 ⟨43, [(2, I va3_0), (3, .lref 0 0 3 0), (7, .lsl 1 0 va3_1.length 1 none), (12, .sl items.nl (items.l.map I) (zsl items.nl 1) none), (13, I ((items.l.length : Nat) : Int)), (14, I ((i3 : Nat) : Int))], [(0, ⟨[.agg [.sl e.items.nl (e.items.l.map S_Item.D) (zsl e.items.nl 4) none, I e.whole.lo, I e.whole.hi]], 3, false⟩), (1, ⟨va3_1.map I, 1, false⟩)], 2, 0⟩ = some (lr_orders_shown_3 e items s (orders_shown_3a e s rest3 va3_0 va3_1)) := by
  intro rest3
  induction rest3 with
  | nil =>
    intro i3 va3_0 va3_1 hd3 hi3 hall hg3_va3_1 hL3
    unfold orders_shown_3a
    obtain rfl : i3 = items.l.length := nil_eq hd3 hi3
    exact zH [.dec false] (And.intro (lt_no hd3) trivial) (by kernel_rfl)
  | cons x3 rest3 ih =>
    intro i3 va3_0 va3_1 hd3 hi3 hall hg3_va3_1 hL3
    have hlt3 := zv hd3
    have hbx := hall x3 (mem_drop hd3)
    unfold orders_shown_3a
    exact po_turn' (ks := [2, 3, 7, 12, 13, 14]) (st' := (sd45 e items i3 x3 va3_0 va3_1)) [.dec true, .el (I x3), .el (.agg [I ((GS.at e.items x3).now.lo), I ((GS.at e.items x3).now.hi), I ((GS.at e.items x3).cost), I ((GS.at e.items x3).error)]), .pure (I (zq (GS.at e.items x3))), .op (some 40) ⟨.lsl 4 0 ((va3_1 ++ [w64 ((w64 (((GS.at e.items x3).now.lo) + ((GS.at e.items x3).error))) + (zV va3_0 (zq (GS.at e.items x3))))]).length) 1 none, [(1, none), (4, some ⟨(va3_1 ++ [w64 ((w64 (((GS.at e.items x3).now.lo) + ((GS.at e.items x3).error))) + (zV va3_0 (zq (GS.at e.items x3))))]).map I, 1, false⟩)], [1, 3], 5⟩, .rw 41 (I ((i3 + 1 : Nat) : Int))] (And.intro (inc_rw (i := i3) (by have := zv hd3; omega)) (And.intro (app_row (f := I) (te := ty3) (gO := zE [(0, ⟨[.agg [.sl e.items.nl (e.items.l.map S_Item.D) (zsl e.items.nl 4) none, I e.whole.lo, I e.whole.hi]], 3, false⟩), (1, ⟨va3_1.map I, 1, false⟩), (2, ⟨[.agg [I ((GS.at e.items x3).now.lo), I ((GS.at e.items x3).now.hi), I ((GS.at e.items x3).cost), I ((GS.at e.items x3).error)]], 4, false⟩), (3, ⟨[I (w64 ((w64 (((GS.at e.items x3).now.lo) + ((GS.at e.items x3).error))) + (zV va3_0 (zq (GS.at e.items x3)))))], 1, false⟩)]) (nxt := 4) (o := 1) (o2 := 3) (fz := false) zN va3_1 (w64 ((w64 (((GS.at e.items x3).now.lo) + ((GS.at e.items x3).error))) + (zV va3_0 (zq (GS.at e.items x3))))) (by kernel_rfl) (by kernel_rfl) rfl (by kernel_rfl) (by decide) ⟨by simp only [ty3, big] <;> (first | assumption | omega | (simp only [z8] at * <;> omega) | (simp only [z5, z6, GS.some_l, List.length_set, List.length_append, List.length_cons, List.length_nil] at * <;> first | with_reducible assumption | omega) | (simp only [z5, z6, GS.some_l, List.length_set, List.length_append, List.length_cons, List.length_nil, z8] at * <;> first | with_reducible assumption | omega) | (simp at * <;> omega)), by simp only [big] <;> (first | assumption | omega | (simp only [z8] at * <;> omega) | (simp only [z5, z6, GS.some_l, List.length_set, List.length_append, List.length_cons, List.length_nil] at * <;> first | with_reducible assumption | omega) | (simp only [z5, z6, GS.some_l, List.length_set, List.length_append, List.length_cons, List.length_nil, z8] at * <;> first | with_reducible assumption | omega) | (simp at * <;> omega))⟩) (And.intro (T_orders_gain (GS.at e.items x3)) (And.intro (el_in (s := e.items) (f := S_Item.D) (k := 4) (i := x3) (by first | assumption | omega | (simp only [z8] at * <;> omega) | (simp only [z5, z6, GS.some_l, List.length_set, List.length_append, List.length_cons, List.length_nil] at * <;> first | with_reducible assumption | omega) | (simp only [z5, z6, GS.some_l, List.length_set, List.length_append, List.length_cons, List.length_nil, z8] at * <;> first | with_reducible assumption | omega) | (simp at * <;> omega)) (by first | assumption | omega | (simp only [z8] at * <;> omega) | (simp only [z5, z6, GS.some_l, List.length_set, List.length_append, List.length_cons, List.length_nil] at * <;> first | with_reducible assumption | omega) | (simp only [z5, z6, GS.some_l, List.length_set, List.length_append, List.length_cons, List.length_nil, z8] at * <;> first | with_reducible assumption | omega) | (simp at * <;> omega))) (And.intro (el_at (s := items) (f := I) (k := 1) hd3) (And.intro (lt_at hd3) trivial)))))) (by kernel_rfl) (by (simp only [sd45, go_sem, Nat.reduceAdd, Nat.reduceEqDiff, Nat.reduceLT, Nat.reduceLeDiff, bI2, zN.idsL, zN.renL, zN.snapAll, zi.idsL, zi.renL, zi.snapAll]) <;> rfl) (ih (i3 + 1) (w64 (va3_0 - (zV va3_0 (zq (GS.at e.items x3))))) (va3_1 ++ [w64 ((w64 (((GS.at e.items x3).now.lo) + ((GS.at e.items x3).error))) + (zV va3_0 (zq (GS.at e.items x3))))]) (zA hd3) (zv hd3) (by first | assumption | omega | (simp only [z8] at * <;> omega) | (simp only [z5, z6, GS.some_l, List.length_set, List.length_append, List.length_cons, List.length_nil] at * <;> first | with_reducible assumption | omega) | (simp only [z5, z6, GS.some_l, List.length_set, List.length_append, List.length_cons, List.length_nil, z8] at * <;> first | with_reducible assumption | omega) | (simp at * <;> omega)) (by first | assumption | omega | (simp only [z8] at * <;> omega) | (simp only [z5, z6, GS.some_l, List.length_set, List.length_append, List.length_cons, List.length_nil] at * <;> first | with_reducible assumption | omega) | (simp only [z5, z6, GS.some_l, List.length_set, List.length_append, List.length_cons, List.length_nil, z8] at * <;> first | with_reducible assumption | omega) | (simp at * <;> omega)) (by first | assumption | omega | (simp only [z8] at * <;> omega) | (simp only [z5, z6, GS.some_l, List.length_set, List.length_append, List.length_cons, List.length_nil] at * <;> first | with_reducible assumption | omega) | (simp only [z5, z6, GS.some_l, List.length_set, List.length_append, List.length_cons, List.length_nil, z8] at * <;> first | with_reducible assumption | omega) | (simp at * <;> omega))) (by kernel_rfl)
theorem ivt_orders_shown_3a (e : S_Estate) (items : GS Int) (s : Int) : ∀ (rest3 : List Int) (i3 : Nat) (va3_0 : Int) (va3_1 : List Int) (hd3 : items.l.drop i3 = rest3) (hi3 : i3 ≤ items.l.length) (hall : ∀ i ∈ items.l, 0 ≤ i ∧ i < ((e.items.l.length : Nat) : Int)) (hg3_va3_1 : va3_1.length ≤ i3) (hL3 : items.l.length ≤ 1099511627776), iv_orders_shown_3 e items s (orders_shown_3a e s rest3 va3_0 va3_1) := by
  intro rest3
  induction rest3 with
  | nil =>
    intro i3 va3_0 va3_1 hd3 hi3 hall hg3_va3_1 hL3
    unfold orders_shown_3a
    obtain rfl : i3 = items.l.length := nil_eq hd3 hi3
    exact hg3_va3_1
  | cons x3 rest3 ih =>
    intro i3 va3_0 va3_1 hd3 hi3 hall hg3_va3_1 hL3
    have hlt3 := zv hd3
    have hbx := hall x3 (mem_drop hd3)
    unfold orders_shown_3a
    exact ih (i3 + 1) (w64 (va3_0 - (zV va3_0 (zq (GS.at e.items x3))))) (va3_1 ++ [w64 ((w64 (((GS.at e.items x3).now.lo) + ((GS.at e.items x3).error))) + (zV va3_0 (zq (GS.at e.items x3))))]) (zA hd3) (zv hd3) (by first | assumption | omega | (simp only [z8] at * <;> omega) | (simp only [z5, z6, GS.some_l, List.length_set, List.length_append, List.length_cons, List.length_nil] at * <;> first | with_reducible assumption | omega) | (simp only [z5, z6, GS.some_l, List.length_set, List.length_append, List.length_cons, List.length_nil, z8] at * <;> first | with_reducible assumption | omega) | (simp at * <;> omega)) (by first | assumption | omega | (simp only [z8] at * <;> omega) | (simp only [z5, z6, GS.some_l, List.length_set, List.length_append, List.length_cons, List.length_nil] at * <;> first | with_reducible assumption | omega) | (simp only [z5, z6, GS.some_l, List.length_set, List.length_append, List.length_cons, List.length_nil, z8] at * <;> first | with_reducible assumption | omega) | (simp at * <;> omega)) (by first | assumption | omega | (simp only [z8] at * <;> omega) | (simp only [z5, z6, GS.some_l, List.length_set, List.length_append, List.length_cons, List.length_nil] at * <;> first | with_reducible assumption | omega) | (simp only [z5, z6, GS.some_l, List.length_set, List.length_append, List.length_cons, List.length_nil, z8] at * <;> first | with_reducible assumption | omega) | (simp at * <;> omega))
theorem lp_orders_shown_3 (e : S_Estate) (items : GS Int) (s : Int) : ∀ (rest3 : List Int) (i3 : Nat) (hd3 : items.l.drop i3 = rest3) (hi3 : i3 ≤ items.l.length) (hall : ∀ i ∈ items.l, 0 ≤ i ∧ i < ((e.items.l.length : Nat) : Int)) (hL3 : items.l.length ≤ 1099511627776), (lim cfg).loop 77 lp77_3 ⟨43, [(2, I s), (3, .lref 0 0 3 0), (7, .sl true [] 0 none), (12, .sl items.nl (items.l.map I) (zsl items.nl 1) none), (13, I ((items.l.length : Nat) : Int)), (14, I ((i3 : Nat) : Int))], [(0, ⟨[.agg [.sl e.items.nl (e.items.l.map S_Item.D) (zsl e.items.nl 4) none, I e.whole.lo, I e.whole.hi]], 3, false⟩)], 1, 0⟩ = some (lr_orders_shown_3 e items s (orders_shown_3 e s rest3)) := by
  intro rest3
  induction rest3 with
  | nil =>
    intro i3 hd3 hi3 hall hL3
    unfold orders_shown_3
    obtain rfl : i3 = items.l.length := nil_eq hd3 hi3
    exact zH [.dec false] (And.intro (lt_no hd3) trivial) (by kernel_rfl)
  | cons x3 rest3 ih =>
    intro i3 hd3 hi3 hall hL3
    have hlt3 := zv hd3
    have hbx := hall x3 (mem_drop hd3)
    unfold orders_shown_3
    dsimp only
    exact po_turn [.dec true, .el (I x3), .el (.agg [I ((GS.at e.items x3).now.lo), I ((GS.at e.items x3).now.hi), I ((GS.at e.items x3).cost), I ((GS.at e.items x3).error)]), .pure (I (zq (GS.at e.items x3))), .rw 41 (I ((i3 + 1 : Nat) : Int))] (And.intro (inc_rw (i := i3) (by have := zv hd3; omega)) (And.intro (T_orders_gain (GS.at e.items x3)) (And.intro (el_in (s := e.items) (f := S_Item.D) (k := 4) (i := x3) (by first | assumption | omega | (simp only [z8] at * <;> omega) | (simp only [z5, z6, GS.some_l, List.length_set, List.length_append, List.length_cons, List.length_nil] at * <;> first | with_reducible assumption | omega) | (simp only [z5, z6, GS.some_l, List.length_set, List.length_append, List.length_cons, List.length_nil, z8] at * <;> first | with_reducible assumption | omega) | (simp at * <;> omega)) (by first | assumption | omega | (simp only [z8] at * <;> omega) | (simp only [z5, z6, GS.some_l, List.length_set, List.length_append, List.length_cons, List.length_nil] at * <;> first | with_reducible assumption | omega) | (simp only [z5, z6, GS.some_l, List.length_set, List.length_append, List.length_cons, List.length_nil, z8] at * <;> first | with_reducible assumption | omega) | (simp at * <;> omega))) (And.intro (el_at (s := items) (f := I) (k := 1) hd3) (And.intro (lt_at hd3) trivial))))) (lp_orders_shown_3a e items s _ (i3 + 1) (w64 (s - (zV s (zq (GS.at e.items x3))))) [w64 ((w64 (((GS.at e.items x3).now.lo) + ((GS.at e.items x3).error))) + (zV s (zq (GS.at e.items x3))))] (zA hd3) (zv hd3) (by first | assumption | omega | (simp only [z8] at * <;> omega) | (simp only [z5, z6, GS.some_l, List.length_set, List.length_append, List.length_cons, List.length_nil] at * <;> first | with_reducible assumption | omega) | (simp only [z5, z6, GS.some_l, List.length_set, List.length_append, List.length_cons, List.length_nil, z8] at * <;> first | with_reducible assumption | omega) | (simp at * <;> omega)) (by first | assumption | omega | (simp only [z8] at * <;> omega) | (simp only [z5, z6, GS.some_l, List.length_set, List.length_append, List.length_cons, List.length_nil] at * <;> first | with_reducible assumption | omega) | (simp only [z5, z6, GS.some_l, List.length_set, List.length_append, List.length_cons, List.length_nil, z8] at * <;> first | with_reducible assumption | omega) | (simp at * <;> omega)) (by first | assumption | omega | (simp only [z8] at * <;> omega) | (simp only [z5, z6, GS.some_l, List.length_set, List.length_append, List.length_cons, List.length_nil] at * <;> first | with_reducible assumption | omega) | (simp only [z5, z6, GS.some_l, List.length_set, List.length_append, List.length_cons, List.length_nil, z8] at * <;> first | with_reducible assumption | omega) | (simp at * <;> omega))) (by kernel_rfl)
theorem ivt_orders_shown_3 (e : S_Estate) (items : GS Int) (s : Int) : ∀ (rest3 : List Int) (i3 : Nat) (hd3 : items.l.drop i3 = rest3) (hi3 : i3 ≤ items.l.length) (hall : ∀ i ∈ items.l, 0 ≤ i ∧ i < ((e.items.l.length : Nat) : Int)) (hL3 : items.l.length ≤ 1099511627776), iv_orders_shown_3 e items s (orders_shown_3 e s rest3) := by
  intro rest3
  induction rest3 with
  | nil =>
    intro i3 hd3 hi3 hall hL3
    unfold orders_shown_3
    obtain rfl : i3 = items.l.length := nil_eq hd3 hi3
    exact trivial
  | cons x3 rest3 ih =>
    intro i3 hd3 hi3 hall hL3
    have hlt3 := zv hd3
    have hbx := hall x3 (mem_drop hd3)
    unfold orders_shown_3
    dsimp only
    exact ivt_orders_shown_3a e items s _ (i3 + 1) (w64 (s - (zV s (zq (GS.at e.items x3))))) [w64 ((w64 (((GS.at e.items x3).now.lo) + ((GS.at e.items x3).error))) + (zV s (zq (GS.at e.items x3))))] (zA hd3) (zv hd3) (by first | assumption | omega | (simp only [z8] at * <;> omega) | (simp only [z5, z6, GS.some_l, List.length_set, List.length_append, List.length_cons, List.length_nil] at * <;> first | with_reducible assumption | omega) | (simp only [z5, z6, GS.some_l, List.length_set, List.length_append, List.length_cons, List.length_nil, z8] at * <;> first | with_reducible assumption | omega) | (simp at * <;> omega)) (by first | assumption | omega | (simp only [z8] at * <;> omega) | (simp only [z5, z6, GS.some_l, List.length_set, List.length_append, List.length_cons, List.length_nil] at * <;> first | with_reducible assumption | omega) | (simp only [z5, z6, GS.some_l, List.length_set, List.length_append, List.length_cons, List.length_nil, z8] at * <;> first | with_reducible assumption | omega) | (simp at * <;> omega)) (by first | assumption | omega | (simp only [z8] at * <;> omega) | (simp only [z5, z6, GS.some_l, List.length_set, List.length_append, List.length_cons, List.length_nil] at * <;> first | with_reducible assumption | omega) | (simp only [z5, z6, GS.some_l, List.length_set, List.length_append, List.length_cons, List.length_nil, z8] at * <;> first | with_reducible assumption | omega) | (simp at * <;> omega))

def orders_shown (e : S_Estate) (items : GS Int) (s : Int) : (GS Int) :=
  match orders_shown_3 e s items.l with
  | .x0 va3_0 va3_1 =>
    GS.some va3_1
  | .x1 =>
    GS.nil

def sd46 (e : S_Estate) (items : GS Int) (va3_0 : Int) (va3_1 : List Int) : St := ⟨43, [(15, B false), (2, I va3_0), (3, .lref 0 0 3 0), (7, .lsl 1 0 va3_1.length 1 none), (12, .sl items.nl (items.l.map I) (zsl items.nl 1) none), (13, I ((items.l.length : Nat) : Int)), (14, I ((items.l.length : Nat) : Int))], [(0, ⟨[.agg [.sl e.items.nl (e.items.l.map S_Item.D) (zsl e.items.nl 4) none, I e.whole.lo, I e.whole.hi]], 3, false⟩), (1, ⟨va3_1.map I, 1, false⟩)], 2, 0⟩

def sd47 (e : S_Estate) (items : GS Int) (s : Int) : St := ⟨43, [(15, B false), (2, I s), (3, .lref 0 0 3 0), (7, .sl true [] 0 none), (12, .sl items.nl (items.l.map I) (zsl items.nl 1) none), (13, I ((items.l.length : Nat) : Int)), (14, I ((items.l.length : Nat) : Int))], [(0, ⟨[.agg [.sl e.items.nl (e.items.l.map S_Item.D) (zsl e.items.nl 4) none, I e.whole.lo, I e.whole.hi]], 3, false⟩)], 1, 0⟩

theorem T_orders_shown (e : S_Estate) (items : GS Int) (s : Int) (hall : ∀ i ∈ items.l, 0 ≤ i ∧ i < ((e.items.l.length : Nat) : Int)) (hL_items : items.l.length ≤ 1099511627776) : (lim cfg).pure 77 [S_Estate.D e, GS.D I 1 items, I s] = some (GS.D I 1 (orders_shown e items s)) := by
  unfold orders_shown
  cases h1 : orders_shown_3 e s items.l with
  | x0 va3_0 va3_1 =>
    try dsimp only
    have hv_h1 := ivt_orders_shown_3 e items s items.l 0 (List.drop_zero) (Nat.zero_le _) (by first | assumption | omega | (simp only [z8] at * <;> omega) | (simp only [z5, z6, GS.some_l, List.length_set, List.length_append, List.length_cons, List.length_nil] at * <;> first | with_reducible assumption | omega) | (simp only [z5, z6, GS.some_l, List.length_set, List.length_append, List.length_cons, List.length_nil, z8] at * <;> first | with_reducible assumption | omega) | (simp at * <;> omega)) (by first | assumption | omega | (simp only [z8] at * <;> omega) | (simp only [z5, z6, GS.some_l, List.length_set, List.length_append, List.length_cons, List.length_nil] at * <;> first | with_reducible assumption | omega) | (simp only [z5, z6, GS.some_l, List.length_set, List.length_append, List.length_cons, List.length_nil, z8] at * <;> first | with_reducible assumption | omega) | (simp at * <;> omega))
    rw [h1] at hv_h1
    have hv_h1_0 := hv_h1
    try dsimp only [iv_orders_shown_3] at hv_h1_0
    exact po_pureS [.rw 13 (I ((items.l.length : Nat) : Int)), .loop (.exit 0) (sd46 e items va3_0 va3_1)] [(1, .sl false (va3_1.map I) 1 none, [1])] (And.intro (snap_row (gO := zE [(0, ⟨[.agg [.sl e.items.nl (e.items.l.map S_Item.D) (zsl e.items.nl 4) none, I e.whole.lo, I e.whole.hi]], 3, false⟩), (1, ⟨va3_1.map I, 1, false⟩)]) (o := 1) (len := va3_1.length) (cap := none) (fz := false) zN va3_1 (by kernel_rfl) (by first | assumption | omega | (simp only [z8] at * <;> omega) | (simp only [z5, z6, GS.some_l, List.length_set, List.length_append, List.length_cons, List.length_nil] at * <;> first | with_reducible assumption | omega) | (simp only [z5, z6, GS.some_l, List.length_set, List.length_append, List.length_cons, List.length_nil, z8] at * <;> first | with_reducible assumption | omega) | (simp at * <;> omega))) (And.intro (po_lr (q := lr_orders_shown_3 e items s) (lp_orders_shown_3 e items s items.l 0 (List.drop_zero) (Nat.zero_le _) (by first | assumption | omega | (simp only [z8] at * <;> omega) | (simp only [z5, z6, GS.some_l, List.length_set, List.length_append, List.length_cons, List.length_nil] at * <;> first | with_reducible assumption | omega) | (simp only [z5, z6, GS.some_l, List.length_set, List.length_append, List.length_cons, List.length_nil, z8] at * <;> first | with_reducible assumption | omega) | (simp at * <;> omega)) (by first | assumption | omega | (simp only [z8] at * <;> omega) | (simp only [z5, z6, GS.some_l, List.length_set, List.length_append, List.length_cons, List.length_nil] at * <;> first | with_reducible assumption | omega) | (simp only [z5, z6, GS.some_l, List.length_set, List.length_append, List.length_cons, List.length_nil, z8] at * <;> first | with_reducible assumption | omega) | (simp at * <;> omega))) h1) (And.intro (zn I items) trivial))) (by kernel_rfl)
  | x1 =>
    try dsimp only
    exact zh [.rw 13 (I ((items.l.length : Nat) : Int)), .loop (.exit 0) (sd47 e items s)] (And.intro (po_lr (q := lr_orders_shown_3 e items s) (lp_orders_shown_3 e items s items.l 0 (List.drop_zero) (Nat.zero_le _) (by first | assumption | omega | (simp only [z8] at * <;> omega) | (simp only [z5, z6, GS.some_l, List.length_set, List.length_append, List.length_cons, List.length_nil] at * <;> first | with_reducible assumption | omega) | (simp only [z5, z6, GS.some_l, List.length_set, List.length_append, List.length_cons, List.length_nil, z8] at * <;> first | with_reducible assumption | omega) | (simp at * <;> omega)) (by first | assumption | omega | (simp only [z8] at * <;> omega) | (simp only [z5, z6, GS.some_l, List.length_set, List.length_append, List.length_cons, List.length_nil] at * <;> first | with_reducible assumption | omega) | (simp only [z5, z6, GS.some_l, List.length_set, List.length_append, List.length_cons, List.length_nil, z8] at * <;> first | with_reducible assumption | omega) | (simp at * <;> omega))) h1) (And.intro (zn I items) trivial)) (by kernel_rfl)

def orders_Attain (e : S_Estate) (items : GS Int) : (GS Int) × Int :=
  bif ((zp e items) != 0) then
    (GS.nil, (zp e items))
  else
    ((orders_shown e items ((zz (ze e (zj (zg e items)))).2)), 0)

theorem T_orders_Attain (e : S_Estate) (items : GS Int) (hL : items.l.length ≤ 9223372036854775807) : (lim cfg).pure 25 [S_Estate.D e, GS.D I 1 items] = some (.tup [GS.D I 1 ((orders_Attain e items).1), I ((orders_Attain e items).2)]) := by
  unfold orders_Attain
  cases h1 : ((zp e items) != 0) with
  | true =>
    have g1 := y0 h1
    exact zh [.pure (I (zp e items)), .dec true] (And.intro h1 (And.intro (zT e items (by first | assumption | omega | (simp only [z8] at * <;> omega) | (simp only [z5, z6, GS.some_l, List.length_set, List.length_append, List.length_cons, List.length_nil] at * <;> first | with_reducible assumption | omega) | (simp only [z5, z6, GS.some_l, List.length_set, List.length_append, List.length_cons, List.length_nil, z8] at * <;> first | with_reducible assumption | omega) | (simp at * <;> omega))) trivial)) (by kernel_rfl)
  | false =>
    obtain ⟨g1, gb1⟩ := And.intro (right_ok (by assumption) (zF h1)) (right_all (by assumption) (zF h1))
    exact zh [.pure (I (zp e items)), .dec false, .pure (.sl ((zg e items).nl) (((zg e items).l).map I) (zsl ((zg e items).nl) 1) none), .pure (I (zj (zg e items))), .pure (.agg [I ((ze e (zj (zg e items))).at_.lo), I ((ze e (zj (zg e items))).at_.hi), I ((ze e (zj (zg e items))).room_), I ((ze e (zj (zg e items))).whole_.lo), I ((ze e (zj (zg e items))).whole_.hi)]), .pure (.tup [I ((zz (ze e (zj (zg e items)))).1), I ((zz (ze e (zj (zg e items)))).2)]), .pure (.sl ((orders_shown e items ((zz (ze e (zj (zg e items)))).2)).nl) (((orders_shown e items ((zz (ze e (zj (zg e items)))).2)).l).map I) (zsl ((orders_shown e items ((zz (ze e (zj (zg e items)))).2)).nl) 1) none)] (And.intro (T_orders_shown e items ((zz (ze e (zj (zg e items)))).2) (by first | assumption | omega | (simp only [z8] at * <;> omega) | (simp only [z5, z6, GS.some_l, List.length_set, List.length_append, List.length_cons, List.length_nil] at * <;> first | with_reducible assumption | omega) | (simp only [z5, z6, GS.some_l, List.length_set, List.length_append, List.length_cons, List.length_nil, z8] at * <;> first | with_reducible assumption | omega) | (simp at * <;> omega)) (by first | assumption | omega | (simp only [z8] at * <;> omega) | (simp only [z5, z6, GS.some_l, List.length_set, List.length_append, List.length_cons, List.length_nil] at * <;> first | with_reducible assumption | omega) | (simp only [z5, z6, GS.some_l, List.length_set, List.length_append, List.length_cons, List.length_nil, z8] at * <;> first | with_reducible assumption | omega) | (simp at * <;> omega))) (And.intro (T_orders_window_widest (ze e (zj (zg e items)))) (And.intro (T_orders_windowOf e (zj (zg e items)) (by first | assumption | omega | (simp only [z8] at * <;> omega) | (simp only [z5, z6, GS.some_l, List.length_set, List.length_append, List.length_cons, List.length_nil] at * <;> first | with_reducible assumption | omega) | (simp only [z5, z6, GS.some_l, List.length_set, List.length_append, List.length_cons, List.length_nil, z8] at * <;> first | with_reducible assumption | omega) | (simp at * <;> omega))) (And.intro (T_orders_total (zg e items) (by first | assumption | omega | (simp only [z8] at * <;> omega) | (simp only [z5, z6, GS.some_l, List.length_set, List.length_append, List.length_cons, List.length_nil] at * <;> first | with_reducible assumption | omega) | (simp only [z5, z6, GS.some_l, List.length_set, List.length_append, List.length_cons, List.length_nil, z8] at * <;> first | with_reducible assumption | omega) | (simp at * <;> omega))) (And.intro (T_orders_gains e items (by first | assumption | omega | (simp only [z8] at * <;> omega) | (simp only [z5, z6, GS.some_l, List.length_set, List.length_append, List.length_cons, List.length_nil] at * <;> first | with_reducible assumption | omega) | (simp only [z5, z6, GS.some_l, List.length_set, List.length_append, List.length_cons, List.length_nil, z8] at * <;> first | with_reducible assumption | omega) | (simp at * <;> omega)) (by first | assumption | omega | (simp only [z8] at * <;> omega) | (simp only [z5, z6, GS.some_l, List.length_set, List.length_append, List.length_cons, List.length_nil] at * <;> first | with_reducible assumption | omega) | (simp only [z5, z6, GS.some_l, List.length_set, List.length_append, List.length_cons, List.length_nil, z8] at * <;> first | with_reducible assumption | omega) | (simp at * <;> omega))) (And.intro h1 (And.intro (zT e items (by first | assumption | omega | (simp only [z8] at * <;> omega) | (simp only [z5, z6, GS.some_l, List.length_set, List.length_append, List.length_cons, List.length_nil] at * <;> first | with_reducible assumption | omega) | (simp only [z5, z6, GS.some_l, List.length_set, List.length_append, List.length_cons, List.length_nil, z8] at * <;> first | with_reducible assumption | omega) | (simp at * <;> omega))) trivial))))))) (by kernel_rfl)

noncomputable def lp53_3 : Code := subC [1, 1, 0, 1, 0, 0] (bodyC Tryz.f53)

def sd48 (n : Int) (i3 : Nat) (va3_0 : List Int) : St := ⟨15, [(6, I ((i3 + 1 : Nat) : Int)), (13, I ((i3 + 1 : Nat) : Int)), (3, .lsl 2 0 ((va3_0 ++ [((i3 : Nat) : Int)]).length) 1 none), (12, .lsl 2 0 ((va3_0 ++ [((i3 : Nat) : Int)]).length) 1 none), (11, .lsl 1 0 1 1 (some 1)), (10, I ((i3 : Nat) : Int)), (9, .lsl 0 0 va3_0.length 1 none), (4, I ((i3 : Nat) : Int)), (8, I ((i3 : Nat) : Int)), (7, B true), (3, .lsl 0 0 va3_0.length 1 none), (5, I n), (6, I ((i3 : Nat) : Int))], [(1, ⟨[I ((i3 : Nat) : Int)], 1, false⟩), (2, ⟨(va3_0 ++ [((i3 : Nat) : Int)]).map I, 1, false⟩)], 3, 0⟩

inductive LR_orders_numbers_3 where
  | x0 (i3 : Nat) (va3_0 : List Int)
  | x1 (i3 : Nat)
instance : Inhabited LR_orders_numbers_3 := ⟨.x0 default default⟩
def orders_numbers_3a : Nat → Nat → (List Int) → LR_orders_numbers_3
  | 0, i3, va3_0 => .x0 i3 va3_0
  | rest3 + 1, i3, va3_0 =>
    orders_numbers_3a rest3 (i3 + 1) (va3_0 ++ [((i3 : Nat) : Int)])
def orders_numbers_3 : Nat → Nat → LR_orders_numbers_3
  | 0, i3 => .x1 i3
  | rest3 + 1, i3 =>
    orders_numbers_3a rest3 (i3 + 1) [((i3 : Nat) : Int)]
def lr_orders_numbers_3 (n : Int) : LR_orders_numbers_3 → Exit × St
  | .x0 i3 va3_0 => ((.exit 0), ⟨15, [(7, B false), (3, .lsl 0 0 va3_0.length 1 none), (5, I n), (6, I ((i3 : Nat) : Int))], [(0, ⟨va3_0.map I, 1, false⟩)], 1, 0⟩)
  | .x1 i3 => ((.exit 0), ⟨15, [(7, B false), (3, .sl true [] 0 none), (5, I n), (6, I ((i3 : Nat) : Int))], [], 0, 0⟩)
def iv_orders_numbers_3 (n : Int) : LR_orders_numbers_3 → Prop
  | .x0 i3 va3_0 => (va3_0.length ≤ i3)
  | .x1 i3 => True
theorem lp_orders_numbers_3a (n : Int) : ∀ (rest3 : Nat) (i3 : Nat) (va3_0 : List Int) (hk3 : (n - ((i3 : Nat) : Int)).toNat = rest3) (hN3 : n ≤ 9223372036854775807) (hn : n ≤ 1099511627776) (hg3_va3_0 : va3_0.length ≤ i3) (hL3 : n ≤ 1099511627776), (lim cfg).loop 53 lp53_3 ⟨15, [(3, .lsl 0 0 va3_0.length 1 none), (5, I n), (6, I ((i3 : Nat) : Int))], [(0, ⟨va3_0.map I, 1, false⟩)], 1, 0⟩ = some (lr_orders_numbers_3 n (orders_numbers_3a rest3 i3 va3_0)) := by
  intro rest3
  induction rest3 with
  | zero =>
    intro i3 va3_0 hk3 hN3 hn hg3_va3_0 hL3
    unfold orders_numbers_3a
    exact zH [.dec false] (And.intro (ct_no hk3) trivial) (by kernel_rfl)
  | succ rest3 ih =>
    intro i3 va3_0 hk3 hN3 hn hg3_va3_0 hL3
    have hlt3 := of_decide_eq_true (ct_at hk3)
    unfold orders_numbers_3a
    exact po_turn' (ks := [3, 5, 6]) (st' := (sd48 n i3 va3_0)) [.dec true, .op (some 12) ⟨.lsl 2 0 ((va3_0 ++ [((i3 : Nat) : Int)]).length) 1 none, [(0, none), (2, some ⟨(va3_0 ++ [((i3 : Nat) : Int)]).map I, 1, false⟩)], [0, 1], 3⟩, .rw 13 (I ((i3 + 1 : Nat) : Int))] (And.intro (inc_rw (i := i3) (by first | assumption | omega | (simp only [z8] at * <;> omega) | (simp only [z5, z6, GS.some_l, List.length_set, List.length_append, List.length_cons, List.length_nil] at * <;> first | with_reducible assumption | omega) | (simp only [z5, z6, GS.some_l, List.length_set, List.length_append, List.length_cons, List.length_nil, z8] at * <;> first | with_reducible assumption | omega) | (simp at * <;> omega))) (And.intro (app_row (f := I) (te := ty3) (gO := zE [(0, ⟨va3_0.map I, 1, false⟩), (1, ⟨[I ((i3 : Nat) : Int)], 1, false⟩)]) (nxt := 2) (o := 0) (o2 := 1) (fz := false) zN va3_0 ((i3 : Nat) : Int) (by kernel_rfl) (by kernel_rfl) rfl (by kernel_rfl) (by decide) ⟨by simp only [ty3, big] <;> (first | assumption | omega | (simp only [z8] at * <;> omega) | (simp only [z5, z6, GS.some_l, List.length_set, List.length_append, List.length_cons, List.length_nil] at * <;> first | with_reducible assumption | omega) | (simp only [z5, z6, GS.some_l, List.length_set, List.length_append, List.length_cons, List.length_nil, z8] at * <;> first | with_reducible assumption | omega) | (simp at * <;> omega)), by simp only [big] <;> (first | assumption | omega | (simp only [z8] at * <;> omega) | (simp only [z5, z6, GS.some_l, List.length_set, List.length_append, List.length_cons, List.length_nil] at * <;> first | with_reducible assumption | omega) | (simp only [z5, z6, GS.some_l, List.length_set, List.length_append, List.length_cons, List.length_nil, z8] at * <;> first | with_reducible assumption | omega) | (simp at * <;> omega))⟩) (And.intro (ct_at hk3) trivial))) (by kernel_rfl) (by (simp only [sd48, go_sem, Nat.reduceAdd, Nat.reduceEqDiff, Nat.reduceLT, Nat.reduceLeDiff, bI2, zN.idsL, zN.renL, zN.snapAll, zi.idsL, zi.renL, zi.snapAll]) <;> rfl) (ih (i3 + 1) (va3_0 ++ [((i3 : Nat) : Int)]) (by omega) hN3 (by first | assumption | omega | (simp only [z8] at * <;> omega) | (simp only [z5, z6, GS.some_l, List.length_set, List.length_append, List.length_cons, List.length_nil] at * <;> first | with_reducible assumption | omega) | (simp only [z5, z6, GS.some_l, List.length_set, List.length_append, List.length_cons, List.length_nil, z8] at * <;> first | with_reducible assumption | omega) | (simp at * <;> omega)) (by first | assumption | omega | (simp only [z8] at * <;> omega) | (simp only [z5, z6, GS.some_l, List.length_set, List.length_append, List.length_cons, List.length_nil] at * <;> first | with_reducible assumption | omega) | (simp only [z5, z6, GS.some_l, List.length_set, List.length_append, List.length_cons, List.length_nil, z8] at * <;> first | with_reducible assumption | omega) | (simp at * <;> omega)) (by first | assumption | omega | (simp only [z8] at * <;> omega) | (simp only [z5, z6, GS.some_l, List.length_set, List.length_append, List.length_cons, List.length_nil] at * <;> first | with_reducible assumption | omega) | (simp only [z5, z6, GS.some_l, List.length_set, List.length_append, List.length_cons, List.length_nil, z8] at * <;> first | with_reducible assumption | omega) | (simp at * <;> omega))) (by kernel_rfl)
theorem ivt_orders_numbers_3a (n : Int) : ∀ (rest3 : Nat) (i3 : Nat) (va3_0 : List Int) (hk3 : (n - ((i3 : Nat) : Int)).toNat = rest3) (hN3 : n ≤ 9223372036854775807) (hn : n ≤ 1099511627776) (hg3_va3_0 : va3_0.length ≤ i3) (hL3 : n ≤ 1099511627776), iv_orders_numbers_3 n (orders_numbers_3a rest3 i3 va3_0) := by
  intro rest3
  induction rest3 with
  | zero =>
    intro i3 va3_0 hk3 hN3 hn hg3_va3_0 hL3
    unfold orders_numbers_3a
    exact hg3_va3_0
  | succ rest3 ih =>
    intro i3 va3_0 hk3 hN3 hn hg3_va3_0 hL3
    have hlt3 := of_decide_eq_true (ct_at hk3)
    unfold orders_numbers_3a
    exact ih (i3 + 1) (va3_0 ++ [((i3 : Nat) : Int)]) (by omega) hN3 (by first | assumption | omega | (simp only [z8] at * <;> omega) | (simp only [z5, z6, GS.some_l, List.length_set, List.length_append, List.length_cons, List.length_nil] at * <;> first | with_reducible assumption | omega) | (simp only [z5, z6, GS.some_l, List.length_set, List.length_append, List.length_cons, List.length_nil, z8] at * <;> first | with_reducible assumption | omega) | (simp at * <;> omega)) (by first | assumption | omega | (simp only [z8] at * <;> omega) | (simp only [z5, z6, GS.some_l, List.length_set, List.length_append, List.length_cons, List.length_nil] at * <;> first | with_reducible assumption | omega) | (simp only [z5, z6, GS.some_l, List.length_set, List.length_append, List.length_cons, List.length_nil, z8] at * <;> first | with_reducible assumption | omega) | (simp at * <;> omega)) (by first | assumption | omega | (simp only [z8] at * <;> omega) | (simp only [z5, z6, GS.some_l, List.length_set, List.length_append, List.length_cons, List.length_nil] at * <;> first | with_reducible assumption | omega) | (simp only [z5, z6, GS.some_l, List.length_set, List.length_append, List.length_cons, List.length_nil, z8] at * <;> first | with_reducible assumption | omega) | (simp at * <;> omega))
theorem lp_orders_numbers_3 (n : Int) : ∀ (rest3 : Nat) (i3 : Nat) (hk3 : (n - ((i3 : Nat) : Int)).toNat = rest3) (hN3 : n ≤ 9223372036854775807) (hn : n ≤ 1099511627776) (hL3 : n ≤ 1099511627776), (lim cfg).loop 53 lp53_3 ⟨15, [(3, .sl true [] 0 none), (5, I n), (6, I ((i3 : Nat) : Int))], [], 0, 0⟩ = some (lr_orders_numbers_3 n (orders_numbers_3 rest3 i3)) := by
  intro rest3
  induction rest3 with
  | zero =>
    intro i3 hk3 hN3 hn hL3
    unfold orders_numbers_3
    exact zH [.dec false] (And.intro (ct_no hk3) trivial) (by kernel_rfl)
  | succ rest3 ih =>
    intro i3 hk3 hN3 hn hL3
    have hlt3 := of_decide_eq_true (ct_at hk3)
    unfold orders_numbers_3
    dsimp only
    exact po_turn [.dec true, .rw 13 (I ((i3 + 1 : Nat) : Int))] (And.intro (inc_rw (i := i3) (by first | assumption | omega | (simp only [z8] at * <;> omega) | (simp only [z5, z6, GS.some_l, List.length_set, List.length_append, List.length_cons, List.length_nil] at * <;> first | with_reducible assumption | omega) | (simp only [z5, z6, GS.some_l, List.length_set, List.length_append, List.length_cons, List.length_nil, z8] at * <;> first | with_reducible assumption | omega) | (simp at * <;> omega))) (And.intro (ct_at hk3) trivial)) (lp_orders_numbers_3a n _ (i3 + 1) [((i3 : Nat) : Int)] (by omega) hN3 (by first | assumption | omega | (simp only [z8] at * <;> omega) | (simp only [z5, z6, GS.some_l, List.length_set, List.length_append, List.length_cons, List.length_nil] at * <;> first | with_reducible assumption | omega) | (simp only [z5, z6, GS.some_l, List.length_set, List.length_append, List.length_cons, List.length_nil, z8] at * <;> first | with_reducible assumption | omega) | (simp at * <;> omega)) (by first | assumption | omega | (simp only [z8] at * <;> omega) | (simp only [z5, z6, GS.some_l, List.length_set, List.length_append, List.length_cons, List.length_nil] at * <;> first | with_reducible assumption | omega) | (simp only [z5, z6, GS.some_l, List.length_set, List.length_append, List.length_cons, List.length_nil, z8] at * <;> first | with_reducible assumption | omega) | (simp at * <;> omega)) (by first | assumption | omega | (simp only [z8] at * <;> omega) | (simp only [z5, z6, GS.some_l, List.length_set, List.length_append, List.length_cons, List.length_nil] at * <;> first | with_reducible assumption | omega) | (simp only [z5, z6, GS.some_l, List.length_set, List.length_append, List.length_cons, List.length_nil, z8] at * <;> first | with_reducible assumption | omega) | (simp at * <;> omega))) (by kernel_rfl)
theorem ivt_orders_numbers_3 (n : Int) : ∀ (rest3 : Nat) (i3 : Nat) (hk3 : (n - ((i3 : Nat) : Int)).toNat = rest3) (hN3 : n ≤ 9223372036854775807) (hn : n ≤ 1099511627776) (hL3 : n ≤ 1099511627776), iv_orders_numbers_3 n (orders_numbers_3 rest3 i3) := by
  intro rest3
  induction rest3 with
  | zero =>
    intro i3 hk3 hN3 hn hL3
    unfold orders_numbers_3
    exact trivial
  | succ rest3 ih =>
    intro i3 hk3 hN3 hn hL3
    have hlt3 := of_decide_eq_true (ct_at hk3)
    unfold orders_numbers_3
    dsimp only
    exact ivt_orders_numbers_3a n _ (i3 + 1) [((i3 : Nat) : Int)] (by omega) hN3 (by first | assumption | omega | (simp only [z8] at * <;> omega) | (simp only [z5, z6, GS.some_l, List.length_set, List.length_append, List.length_cons, List.length_nil] at * <;> first | with_reducible assumption | omega) | (simp only [z5, z6, GS.some_l, List.length_set, List.length_append, List.length_cons, List.length_nil, z8] at * <;> first | with_reducible assumption | omega) | (simp at * <;> omega)) (by first | assumption | omega | (simp only [z8] at * <;> omega) | (simp only [z5, z6, GS.some_l, List.length_set, List.length_append, List.length_cons, List.length_nil] at * <;> first | with_reducible assumption | omega) | (simp only [z5, z6, GS.some_l, List.length_set, List.length_append, List.length_cons, List.length_nil, z8] at * <;> first | with_reducible assumption | omega) | (simp at * <;> omega)) (by first | assumption | omega | (simp only [z8] at * <;> omega) | (simp only [z5, z6, GS.some_l, List.length_set, List.length_append, List.length_cons, List.length_nil] at * <;> first | with_reducible assumption | omega) | (simp only [z5, z6, GS.some_l, List.length_set, List.length_append, List.length_cons, List.length_nil, z8] at * <;> first | with_reducible assumption | omega) | (simp at * <;> omega))

def zB (n : Int) : (GS Int) :=
  match orders_numbers_3 (n - 0).toNat 0 with
  | .x0 i3 va3_0 =>
    GS.some va3_0
  | .x1 i3 =>
    GS.nil

theorem T_orders_numbers (n : Int) (hn : n ≤ 1099511627776) : (lim cfg).pure 53 [I n] = some (GS.D I 1 (zB n)) := by
  unfold zB
  cases h1 : orders_numbers_3 (n - 0).toNat 0 with
  | x0 i3 va3_0 =>
    try dsimp only
    have hv_h1 := ivt_orders_numbers_3 n (n - 0).toNat 0 (by omega) (by first | assumption | omega | (simp only [z8] at * <;> omega) | (simp only [z5, z6, GS.some_l, List.length_set, List.length_append, List.length_cons, List.length_nil] at * <;> first | with_reducible assumption | omega) | (simp only [z5, z6, GS.some_l, List.length_set, List.length_append, List.length_cons, List.length_nil, z8] at * <;> first | with_reducible assumption | omega) | (simp at * <;> omega)) (by first | assumption | omega | (simp only [z8] at * <;> omega) | (simp only [z5, z6, GS.some_l, List.length_set, List.length_append, List.length_cons, List.length_nil] at * <;> first | with_reducible assumption | omega) | (simp only [z5, z6, GS.some_l, List.length_set, List.length_append, List.length_cons, List.length_nil, z8] at * <;> first | with_reducible assumption | omega) | (simp at * <;> omega)) (by first | assumption | omega | (simp only [z8] at * <;> omega) | (simp only [z5, z6, GS.some_l, List.length_set, List.length_append, List.length_cons, List.length_nil] at * <;> first | with_reducible assumption | omega) | (simp only [z5, z6, GS.some_l, List.length_set, List.length_append, List.length_cons, List.length_nil, z8] at * <;> first | with_reducible assumption | omega) | (simp at * <;> omega))
    rw [h1] at hv_h1
    have hv_h1_0 := hv_h1
    try dsimp only [iv_orders_numbers_3] at hv_h1_0
    exact po_pureS [.loop (.exit 0) ⟨15, [(7, B false), (3, .lsl 0 0 va3_0.length 1 none), (5, I n), (6, I ((i3 : Nat) : Int))], [(0, ⟨va3_0.map I, 1, false⟩)], 1, 0⟩] [(0, .sl false (va3_0.map I) 1 none, [0])] (And.intro (snap_row (gO := zE [(0, ⟨va3_0.map I, 1, false⟩)]) (o := 0) (len := va3_0.length) (cap := none) (fz := false) zN va3_0 (by kernel_rfl) (by first | assumption | omega | (simp only [z8] at * <;> omega) | (simp only [z5, z6, GS.some_l, List.length_set, List.length_append, List.length_cons, List.length_nil] at * <;> first | with_reducible assumption | omega) | (simp only [z5, z6, GS.some_l, List.length_set, List.length_append, List.length_cons, List.length_nil, z8] at * <;> first | with_reducible assumption | omega) | (simp at * <;> omega))) (And.intro (po_lr (q := lr_orders_numbers_3 n) (lp_orders_numbers_3 n (n - 0).toNat 0 (by omega) (by first | assumption | omega | (simp only [z8] at * <;> omega) | (simp only [z5, z6, GS.some_l, List.length_set, List.length_append, List.length_cons, List.length_nil] at * <;> first | with_reducible assumption | omega) | (simp only [z5, z6, GS.some_l, List.length_set, List.length_append, List.length_cons, List.length_nil, z8] at * <;> first | with_reducible assumption | omega) | (simp at * <;> omega)) (by first | assumption | omega | (simp only [z8] at * <;> omega) | (simp only [z5, z6, GS.some_l, List.length_set, List.length_append, List.length_cons, List.length_nil] at * <;> first | with_reducible assumption | omega) | (simp only [z5, z6, GS.some_l, List.length_set, List.length_append, List.length_cons, List.length_nil, z8] at * <;> first | with_reducible assumption | omega) | (simp at * <;> omega)) (by first | assumption | omega | (simp only [z8] at * <;> omega) | (simp only [z5, z6, GS.some_l, List.length_set, List.length_append, List.length_cons, List.length_nil] at * <;> first | with_reducible assumption | omega) | (simp only [z5, z6, GS.some_l, List.length_set, List.length_append, List.length_cons, List.length_nil, z8] at * <;> first | with_reducible assumption | omega) | (simp at * <;> omega))) h1) trivial)) (by kernel_rfl)
  | x1 i3 =>
    try dsimp only
    exact zh [.loop (.exit 0) ⟨15, [(7, B false), (3, .sl true [] 0 none), (5, I n), (6, I ((i3 : Nat) : Int))], [], 0, 0⟩] (And.intro (po_lr (q := lr_orders_numbers_3 n) (lp_orders_numbers_3 n (n - 0).toNat 0 (by omega) (by first | assumption | omega | (simp only [z8] at * <;> omega) | (simp only [z5, z6, GS.some_l, List.length_set, List.length_append, List.length_cons, List.length_nil] at * <;> first | with_reducible assumption | omega) | (simp only [z5, z6, GS.some_l, List.length_set, List.length_append, List.length_cons, List.length_nil, z8] at * <;> first | with_reducible assumption | omega) | (simp at * <;> omega)) (by first | assumption | omega | (simp only [z8] at * <;> omega) | (simp only [z5, z6, GS.some_l, List.length_set, List.length_append, List.length_cons, List.length_nil] at * <;> first | with_reducible assumption | omega) | (simp only [z5, z6, GS.some_l, List.length_set, List.length_append, List.length_cons, List.length_nil, z8] at * <;> first | with_reducible assumption | omega) | (simp at * <;> omega)) (by first | assumption | omega | (simp only [z8] at * <;> omega) | (simp only [z5, z6, GS.some_l, List.length_set, List.length_append, List.length_cons, List.length_nil] at * <;> first | with_reducible assumption | omega) | (simp only [z5, z6, GS.some_l, List.length_set, List.length_append, List.length_cons, List.length_nil, z8] at * <;> first | with_reducible assumption | omega) | (simp at * <;> omega))) h1) trivial) (by kernel_rfl)
end Go.VS
namespace Go.VS
open Go Go.Proofs
set_option maxHeartbeats 0
set_option linter.unusedSimpArgs false
set_option linter.unusedVariables false
def upto (n : Int) : List Int := (List.range n.toNat).map (fun i => ((i : Nat) : Int))
theorem upto_mem {n : Int} : ∀ i ∈ upto n, 0 ≤ i ∧ i < n := by
  intro i hi
  obtain ⟨j, hj, rfl⟩ := List.mem_map.1 hi
  have := List.mem_range.1 hj
  omega
theorem numbers_l (n : Int) : (zB n).l = upto n ∧ (zB n).nl = (upto n).isEmpty := by
  have key : ∀ (k i : Nat) (v : List Int), ∃ j, orders_numbers_3a k i v = .x0 j (v ++ (List.range' i k).map (fun i => ((i : Nat) : Int))) := by
    intro k
    induction k with
    | zero => intro i v; exact ⟨i, by simp [orders_numbers_3a]⟩
    | succ k ih => intro i v; obtain ⟨j, hj⟩ := ih (i + 1) (v ++ [((i : Nat) : Int)]); exact ⟨j, by rw [orders_numbers_3a, hj, List.range'_succ]; simp⟩
  unfold zB upto
  rw [show n - 0 = n by omega]
  cases n.toNat with
  | zero => exact ⟨rfl, rfl⟩
  | succ k =>
    obtain ⟨j, hj⟩ := key k 1 [((0 : Nat) : Int)]
    rw [orders_numbers_3, hj, List.range_eq_range', List.range'_succ]
    exact ⟨rfl, rfl⟩
theorem z9 {n : Int} : ∀ i ∈ (zB n).l, 0 ≤ i ∧ i < n := by rw [(numbers_l n).1]; exact upto_mem
theorem upto_len {n : Int} : (upto n).length = n.toNat := by unfold upto; simp
theorem z7 {n : Int} : (zB n).l.length = n.toNat := by rw [(numbers_l n).1, upto_len]

def orders_Gains (e : S_Estate) : (GS Int) × Int :=
  bif ((zo e) != 0) then
    (GS.nil, (zo e))
  else
    ((zg e (zB ((e.items.l.length : Nat) : Int))), 0)

theorem T_orders_Gains (e : S_Estate) : (lim cfg).pure 29 [S_Estate.D e] = some (.tup [GS.D I 1 ((orders_Gains e).1), I ((orders_Gains e).2)]) := by
  unfold orders_Gains
  cases h1 : ((zo e) != 0) with
  | true =>
    have g1 := y0 h1
    exact zh [.pure (I (zo e)), .dec true] (And.intro h1 (And.intro (zy e) trivial)) (by kernel_rfl)
  | false =>
    have g1 := check_len (zF h1)
    exact zh [.pure (I (zo e)), .dec false, .rw 13 (I ((e.items.l.length : Nat) : Int)), .pure (.sl ((zB ((e.items.l.length : Nat) : Int)).nl) (((zB ((e.items.l.length : Nat) : Int)).l).map I) (zsl ((zB ((e.items.l.length : Nat) : Int)).nl) 1) none), .pure (.sl ((zg e (zB ((e.items.l.length : Nat) : Int))).nl) (((zg e (zB ((e.items.l.length : Nat) : Int))).l).map I) (zsl ((zg e (zB ((e.items.l.length : Nat) : Int))).nl) 1) none)] (And.intro (T_orders_gains e (zB ((e.items.l.length : Nat) : Int)) (by first | assumption | omega | (with_reducible exact z9) | (simp only [z8] at * <;> omega) | (simp only [z5, z6, z7, GS.some_l, List.length_set, List.length_append, List.length_cons, List.length_nil] at * <;> first | with_reducible assumption | omega) | (simp only [z5, z6, z7, GS.some_l, List.length_set, List.length_append, List.length_cons, List.length_nil, z8] at * <;> first | with_reducible assumption | omega) | (simp at * <;> omega)) (by first | assumption | omega | (with_reducible exact z9) | (simp only [z8] at * <;> omega) | (simp only [z5, z6, z7, GS.some_l, List.length_set, List.length_append, List.length_cons, List.length_nil] at * <;> first | with_reducible assumption | omega) | (simp only [z5, z6, z7, GS.some_l, List.length_set, List.length_append, List.length_cons, List.length_nil, z8] at * <;> first | with_reducible assumption | omega) | (simp at * <;> omega))) (And.intro (T_orders_numbers ((e.items.l.length : Nat) : Int) (by first | assumption | omega | (with_reducible exact z9) | (simp only [z8] at * <;> omega) | (simp only [z5, z6, z7, GS.some_l, List.length_set, List.length_append, List.length_cons, List.length_nil] at * <;> first | with_reducible assumption | omega) | (simp only [z5, z6, z7, GS.some_l, List.length_set, List.length_append, List.length_cons, List.length_nil, z8] at * <;> first | with_reducible assumption | omega) | (simp at * <;> omega))) (And.intro (zn S_Item.D e.items) (And.intro h1 (And.intro (zy e) trivial))))) (by kernel_rfl)

def orders_open (e : S_Estate) (items : GS Int) (low : Int) (high : Int) : (GS Int) × Bool :=
  bif decide ((imax ((za (ze e (zj (zg e items)))).1) (w64 ((w64 (low + 1)) - ((ze e (zj (zg e items))).at_.hi)))) > ((za (ze e (zj (zg e items)))).2)) then
    (GS.nil, false)
  else
    bif decide (((zk (ze e (zj (zg e items))) (imax ((za (ze e (zj (zg e items)))).1) (w64 ((w64 (low + 1)) - ((ze e (zj (zg e items))).at_.hi))))).lo) ≥ high) then
      (GS.nil, false)
    else
      bif decide (((zk (ze e (zj (zg e items))) (imax ((za (ze e (zj (zg e items)))).1) (w64 ((w64 (low + 1)) - ((ze e (zj (zg e items))).at_.hi))))).hi) ≤ low) then
        (GS.nil, false)
      else
        ((orders_shown e items (imax ((za (ze e (zj (zg e items)))).1) (w64 ((w64 (low + 1)) - ((ze e (zj (zg e items))).at_.hi))))), true)

def orders_open_o1 (e : S_Estate) (items : GS Int) : List Ora := [.pure (.sl ((zg e items).nl) (((zg e items).l).map I) (zsl ((zg e items).nl) 1) none), .pure (I (zj (zg e items))), .pure (.agg [I ((ze e (zj (zg e items))).at_.lo), I ((ze e (zj (zg e items))).at_.hi), I ((ze e (zj (zg e items))).room_), I ((ze e (zj (zg e items))).whole_.lo), I ((ze e (zj (zg e items))).whole_.hi)]), .pure (.tup [I ((za (ze e (zj (zg e items)))).1), I ((za (ze e (zj (zg e items)))).2)])]

def orders_open_o2 (e : S_Estate) (items : GS Int) (low : Int) : List Ora := [.dec false, .pure (.agg [I ((zk (ze e (zj (zg e items))) (imax ((za (ze e (zj (zg e items)))).1) (w64 ((w64 (low + 1)) - ((ze e (zj (zg e items))).at_.hi))))).lo), I ((zk (ze e (zj (zg e items))) (imax ((za (ze e (zj (zg e items)))).1) (w64 ((w64 (low + 1)) - ((ze e (zj (zg e items))).at_.hi))))).hi)])]

theorem T_orders_open (e : S_Estate) (items : GS Int) (low : Int) (high : Int) (hall : ∀ i ∈ items.l, 0 ≤ i ∧ i < ((e.items.l.length : Nat) : Int)) (hL_items : items.l.length ≤ 1099511627776) (hL_e_items : e.items.l.length ≤ 9223372036854775807) : (lim cfg).pure 69 [S_Estate.D e, GS.D I 1 items, I low, I high] = some (.tup [GS.D I 1 ((orders_open e items low high).1), B ((orders_open e items low high).2)]) := by
  unfold orders_open
  have p1 := (T_orders_gains e items (by first | assumption | omega | (with_reducible exact z9) | (simp only [z8] at * <;> omega) | (simp only [z5, z6, z7, GS.some_l, List.length_set, List.length_append, List.length_cons, List.length_nil] at * <;> first | with_reducible assumption | omega) | (simp only [z5, z6, z7, GS.some_l, List.length_set, List.length_append, List.length_cons, List.length_nil, z8] at * <;> first | with_reducible assumption | omega) | (simp at * <;> omega)) (by first | assumption | omega | (with_reducible exact z9) | (simp only [z8] at * <;> omega) | (simp only [z5, z6, z7, GS.some_l, List.length_set, List.length_append, List.length_cons, List.length_nil] at * <;> first | with_reducible assumption | omega) | (simp only [z5, z6, z7, GS.some_l, List.length_set, List.length_append, List.length_cons, List.length_nil, z8] at * <;> first | with_reducible assumption | omega) | (simp at * <;> omega)))
  have p2 := (T_orders_total (zg e items) (by first | assumption | omega | (with_reducible exact z9) | (simp only [z8] at * <;> omega) | (simp only [z5, z6, z7, GS.some_l, List.length_set, List.length_append, List.length_cons, List.length_nil] at * <;> first | with_reducible assumption | omega) | (simp only [z5, z6, z7, GS.some_l, List.length_set, List.length_append, List.length_cons, List.length_nil, z8] at * <;> first | with_reducible assumption | omega) | (simp at * <;> omega)))
  have p3 := (T_orders_windowOf e (zj (zg e items)) (by first | assumption | omega | (with_reducible exact z9) | (simp only [z8] at * <;> omega) | (simp only [z5, z6, z7, GS.some_l, List.length_set, List.length_append, List.length_cons, List.length_nil] at * <;> first | with_reducible assumption | omega) | (simp only [z5, z6, z7, GS.some_l, List.length_set, List.length_append, List.length_cons, List.length_nil, z8] at * <;> first | with_reducible assumption | omega) | (simp at * <;> omega)))
  have p4 := (T_orders_window_ends (ze e (zj (zg e items))))
  cases h1 : decide ((imax ((za (ze e (zj (zg e items)))).1) (w64 ((w64 (low + 1)) - ((ze e (zj (zg e items))).at_.hi)))) > ((za (ze e (zj (zg e items)))).2)) with
  | true =>
    have g1 := of_decide_eq_true h1
    exact zh ((orders_open_o1 e items) ++ [.dec true]) (And.intro h1 (And.intro p4 (And.intro p3 (And.intro p2 (And.intro p1 trivial))))) (by kernel_rfl)
  | false =>
    have g1 := of_decide_eq_false h1
    have p5 := (T_orders_window_seen (ze e (zj (zg e items))) (imax ((za (ze e (zj (zg e items)))).1) (w64 ((w64 (low + 1)) - ((ze e (zj (zg e items))).at_.hi)))))
    cases h2 : decide (((zk (ze e (zj (zg e items))) (imax ((za (ze e (zj (zg e items)))).1) (w64 ((w64 (low + 1)) - ((ze e (zj (zg e items))).at_.hi))))).lo) ≥ high) with
    | true =>
      have g2 := of_decide_eq_true h2
      exact zh ((orders_open_o1 e items) ++ ((orders_open_o2 e items low) ++ [.dec true])) (And.intro h2 (And.intro p5 (And.intro h1 (And.intro p4 (And.intro p3 (And.intro p2 (And.intro p1 trivial))))))) (by kernel_rfl)
    | false =>
      have g2 := of_decide_eq_false h2
      cases h3 : decide (((zk (ze e (zj (zg e items))) (imax ((za (ze e (zj (zg e items)))).1) (w64 ((w64 (low + 1)) - ((ze e (zj (zg e items))).at_.hi))))).hi) ≤ low) with
      | true =>
        have g3 := of_decide_eq_true h3
        exact zh ((orders_open_o1 e items) ++ ((orders_open_o2 e items low) ++ [.dec false, .dec true])) (And.intro h3 (And.intro h2 (And.intro p5 (And.intro h1 (And.intro p4 (And.intro p3 (And.intro p2 (And.intro p1 trivial)))))))) (by kernel_rfl)
      | false =>
        have g3 := of_decide_eq_false h3
        exact zh ((orders_open_o1 e items) ++ ((orders_open_o2 e items low) ++ [.dec false, .dec false, .pure (.sl ((orders_shown e items (imax ((za (ze e (zj (zg e items)))).1) (w64 ((w64 (low + 1)) - ((ze e (zj (zg e items))).at_.hi))))).nl) (((orders_shown e items (imax ((za (ze e (zj (zg e items)))).1) (w64 ((w64 (low + 1)) - ((ze e (zj (zg e items))).at_.hi))))).l).map I) (zsl ((orders_shown e items (imax ((za (ze e (zj (zg e items)))).1) (w64 ((w64 (low + 1)) - ((ze e (zj (zg e items))).at_.hi))))).nl) 1) none)])) (And.intro (T_orders_shown e items (imax ((za (ze e (zj (zg e items)))).1) (w64 ((w64 (low + 1)) - ((ze e (zj (zg e items))).at_.hi)))) (by first | assumption | omega | (with_reducible exact z9) | (simp only [z8] at * <;> omega) | (simp only [z5, z6, z7, GS.some_l, List.length_set, List.length_append, List.length_cons, List.length_nil] at * <;> first | with_reducible assumption | omega) | (simp only [z5, z6, z7, GS.some_l, List.length_set, List.length_append, List.length_cons, List.length_nil, z8] at * <;> first | with_reducible assumption | omega) | (simp at * <;> omega)) (by first | assumption | omega | (with_reducible exact z9) | (simp only [z8] at * <;> omega) | (simp only [z5, z6, z7, GS.some_l, List.length_set, List.length_append, List.length_cons, List.length_nil] at * <;> first | with_reducible assumption | omega) | (simp only [z5, z6, z7, GS.some_l, List.length_set, List.length_append, List.length_cons, List.length_nil, z8] at * <;> first | with_reducible assumption | omega) | (simp at * <;> omega))) (And.intro h3 (And.intro h2 (And.intro p5 (And.intro h1 (And.intro p4 (And.intro p3 (And.intro p2 (And.intro p1 trivial))))))))) (by kernel_rfl)

def orders_bounds (e : S_Estate) (items : GS Int) (low : Int) (high : Int) : Int :=
  bif ((zp e items) != 0) then
    (zp e items)
  else
    bif decide (low ≥ high) then
      1
    else
      bif decide (low < (-1099511627776)) then
        1
      else
        bif decide (high > 1099511627776) then
          1
        else
          0

theorem T_orders_bounds (e : S_Estate) (items : GS Int) (low : Int) (high : Int) (hL : items.l.length ≤ 9223372036854775807) : (lim cfg).pure 68 [S_Estate.D e, GS.D I 1 items, I low, I high] = some (I (orders_bounds e items low high)) := by
  unfold orders_bounds
  cases h1 : ((zp e items) != 0) with
  | true =>
    have g1 := y0 h1
    exact zh [.pure (I (zp e items)), .dec true] (And.intro h1 (And.intro (zT e items (by first | assumption | omega | (with_reducible exact z9) | (simp only [z8] at * <;> omega) | (simp only [z5, z6, z7, GS.some_l, List.length_set, List.length_append, List.length_cons, List.length_nil] at * <;> first | with_reducible assumption | omega) | (simp only [z5, z6, z7, GS.some_l, List.length_set, List.length_append, List.length_cons, List.length_nil, z8] at * <;> first | with_reducible assumption | omega) | (simp at * <;> omega))) trivial)) (by kernel_rfl)
  | false =>
    obtain ⟨g1, gb1⟩ := And.intro (right_ok (by assumption) (zF h1)) (right_all (by assumption) (zF h1))
    cases h2 : decide (low ≥ high) with
    | true =>
      have g2 := of_decide_eq_true h2
      exact zh [.pure (I (zp e items)), .dec false, .dec true] (And.intro h2 (And.intro h1 (And.intro (zT e items (by first | assumption | omega | (with_reducible exact z9) | (simp only [z8] at * <;> omega) | (simp only [z5, z6, z7, GS.some_l, List.length_set, List.length_append, List.length_cons, List.length_nil] at * <;> first | with_reducible assumption | omega) | (simp only [z5, z6, z7, GS.some_l, List.length_set, List.length_append, List.length_cons, List.length_nil, z8] at * <;> first | with_reducible assumption | omega) | (simp at * <;> omega))) trivial))) (by kernel_rfl)
    | false =>
      have g2 := of_decide_eq_false h2
      cases h3 : decide (low < (-1099511627776)) with
      | true =>
        have g3 := of_decide_eq_true h3
        exact zh [.pure (I (zp e items)), .dec false, .dec false, .dec true] (And.intro h3 (And.intro h2 (And.intro h1 (And.intro (zT e items (by first | assumption | omega | (with_reducible exact z9) | (simp only [z8] at * <;> omega) | (simp only [z5, z6, z7, GS.some_l, List.length_set, List.length_append, List.length_cons, List.length_nil] at * <;> first | with_reducible assumption | omega) | (simp only [z5, z6, z7, GS.some_l, List.length_set, List.length_append, List.length_cons, List.length_nil, z8] at * <;> first | with_reducible assumption | omega) | (simp at * <;> omega))) trivial)))) (by kernel_rfl)
      | false =>
        have g3 := of_decide_eq_false h3
        cases h4 : decide (high > 1099511627776) with
        | true =>
          have g4 := of_decide_eq_true h4
          exact zh [.pure (I (zp e items)), .dec false, .dec false, .dec false, .dec true] (And.intro h4 (And.intro h3 (And.intro h2 (And.intro h1 (And.intro (zT e items (by first | assumption | omega | (with_reducible exact z9) | (simp only [z8] at * <;> omega) | (simp only [z5, z6, z7, GS.some_l, List.length_set, List.length_append, List.length_cons, List.length_nil] at * <;> first | with_reducible assumption | omega) | (simp only [z5, z6, z7, GS.some_l, List.length_set, List.length_append, List.length_cons, List.length_nil, z8] at * <;> first | with_reducible assumption | omega) | (simp at * <;> omega))) trivial))))) (by kernel_rfl)
        | false =>
          have g4 := of_decide_eq_false h4
          exact zh [.pure (I (zp e items)), .dec false, .dec false, .dec false, .dec false] (And.intro h4 (And.intro h3 (And.intro h2 (And.intro h1 (And.intro (zT e items (by first | assumption | omega | (with_reducible exact z9) | (simp only [z8] at * <;> omega) | (simp only [z5, z6, z7, GS.some_l, List.length_set, List.length_append, List.length_cons, List.length_nil] at * <;> first | with_reducible assumption | omega) | (simp only [z5, z6, z7, GS.some_l, List.length_set, List.length_append, List.length_cons, List.length_nil, z8] at * <;> first | with_reducible assumption | omega) | (simp at * <;> omega))) trivial))))) (by kernel_rfl)

theorem bounds_iff {e : S_Estate} {items : GS Int} {low high : Int} : orders_bounds e items low high = 0 ↔ zp e items = 0 ∧ low < high ∧ -1099511627776 ≤ low ∧ high ≤ 1099511627776 := by
  unfold orders_bounds
  cases h : (zp e items != 0) with
  | true =>
    have := y0 h
    simp only [cond_true]
    exact ⟨fun h => absurd h this, fun h => h.1⟩
  | false =>
    have h' := zF h
    simp only [cond_false, Bool.cond_decide]
    split
    · simp; omega
    · split
      · simp; omega
      · split
        · simp; omega
        · simp; omega

def orders_Open (e : S_Estate) (items : GS Int) (low : Int) (high : Int) : (GS Int) × Bool × Int :=
  bif ((orders_bounds e items low high) != 0) then
    (GS.nil, false, (orders_bounds e items low high))
  else
    bif ((orders_open e items low high).2) then
      (((orders_open e items low high).1), true, 0)
    else
      (((orders_open e items low high).1), false, 0)

def orders_Open_o1 (e : S_Estate) (items : GS Int) (low : Int) (high : Int) : List Ora := [.pure (I (orders_bounds e items low high)), .dec false, .pure (.tup [.sl (((orders_open e items low high).1).nl) ((((orders_open e items low high).1).l).map I) (zsl (((orders_open e items low high).1).nl) 1) none, B ((orders_open e items low high).2)])]

theorem T_orders_Open (e : S_Estate) (items : GS Int) (low : Int) (high : Int) (hL : items.l.length ≤ 9223372036854775807) : (lim cfg).pure 21 [S_Estate.D e, GS.D I 1 items, I low, I high] = some (.tup [GS.D I 1 ((orders_Open e items low high).1), B ((orders_Open e items low high).2.1), I ((orders_Open e items low high).2.2)]) := by
  unfold orders_Open
  have p1 := (T_orders_bounds e items low high (by first | assumption | omega | (with_reducible exact z9) | (simp only [z8] at * <;> omega) | (simp only [z5, z6, z7, GS.some_l, List.length_set, List.length_append, List.length_cons, List.length_nil] at * <;> first | with_reducible assumption | omega) | (simp only [z5, z6, z7, GS.some_l, List.length_set, List.length_append, List.length_cons, List.length_nil, z8] at * <;> first | with_reducible assumption | omega) | (simp at * <;> omega)))
  cases h1 : ((orders_bounds e items low high) != 0) with
  | true =>
    have g1 := y0 h1
    exact zh [.pure (I (orders_bounds e items low high)), .dec true] (And.intro h1 (And.intro p1 trivial)) (by kernel_rfl)
  | false =>
    obtain ⟨g1, gb1⟩ := And.intro (right_ok (by assumption) (bounds_iff.1 (zF h1)).1) (right_all (by assumption) (bounds_iff.1 (zF h1)).1)
    have p2 := (T_orders_open e items low high (by first | assumption | omega | (with_reducible exact z9) | (simp only [z8] at * <;> omega) | (simp only [z5, z6, z7, GS.some_l, List.length_set, List.length_append, List.length_cons, List.length_nil] at * <;> first | with_reducible assumption | omega) | (simp only [z5, z6, z7, GS.some_l, List.length_set, List.length_append, List.length_cons, List.length_nil, z8] at * <;> first | with_reducible assumption | omega) | (simp at * <;> omega)) (by first | assumption | omega | (with_reducible exact z9) | (simp only [z8] at * <;> omega) | (simp only [z5, z6, z7, GS.some_l, List.length_set, List.length_append, List.length_cons, List.length_nil] at * <;> first | with_reducible assumption | omega) | (simp only [z5, z6, z7, GS.some_l, List.length_set, List.length_append, List.length_cons, List.length_nil, z8] at * <;> first | with_reducible assumption | omega) | (simp at * <;> omega)) (by first | assumption | omega | (with_reducible exact z9) | (simp only [z8] at * <;> omega) | (simp only [z5, z6, z7, GS.some_l, List.length_set, List.length_append, List.length_cons, List.length_nil] at * <;> first | with_reducible assumption | omega) | (simp only [z5, z6, z7, GS.some_l, List.length_set, List.length_append, List.length_cons, List.length_nil, z8] at * <;> first | with_reducible assumption | omega) | (simp at * <;> omega)))
    cases h2 : ((orders_open e items low high).2) with
    | true =>
      exact zh ((orders_Open_o1 e items low high) ++ [.dec true]) (And.intro h2 (And.intro p2 (And.intro h1 (And.intro p1 trivial)))) (by kernel_rfl)
    | false =>
      exact zh ((orders_Open_o1 e items low high) ++ [.dec false]) (And.intro h2 (And.intro p2 (And.intro h1 (And.intro p1 trivial)))) (by kernel_rfl)

def orders_Decides (e : S_Estate) (items : GS Int) (low : Int) (high : Int) : Bool × Int :=
  bif ((orders_bounds e items low high) != 0) then
    (false, (orders_bounds e items low high))
  else
    bif ((orders_open e items low high).2) then
      (false, 0)
    else
      (true, 0)

def orders_Decides_o1 (e : S_Estate) (items : GS Int) (low : Int) (high : Int) : List Ora := [.pure (I (orders_bounds e items low high)), .dec false, .pure (.tup [.sl (((orders_open e items low high).1).nl) ((((orders_open e items low high).1).l).map I) (zsl (((orders_open e items low high).1).nl) 1) none, B ((orders_open e items low high).2)])]

theorem T_orders_Decides (e : S_Estate) (items : GS Int) (low : Int) (high : Int) (hL : items.l.length ≤ 9223372036854775807) : (lim cfg).pure 17 [S_Estate.D e, GS.D I 1 items, I low, I high] = some (.tup [B ((orders_Decides e items low high).1), I ((orders_Decides e items low high).2)]) := by
  unfold orders_Decides
  have p1 := (T_orders_bounds e items low high (by first | assumption | omega | (with_reducible exact z9) | (simp only [z8] at * <;> omega) | (simp only [z5, z6, z7, GS.some_l, List.length_set, List.length_append, List.length_cons, List.length_nil] at * <;> first | with_reducible assumption | omega) | (simp only [z5, z6, z7, GS.some_l, List.length_set, List.length_append, List.length_cons, List.length_nil, z8] at * <;> first | with_reducible assumption | omega) | (simp at * <;> omega)))
  cases h1 : ((orders_bounds e items low high) != 0) with
  | true =>
    have g1 := y0 h1
    exact zh [.pure (I (orders_bounds e items low high)), .dec true] (And.intro h1 (And.intro p1 trivial)) (by kernel_rfl)
  | false =>
    obtain ⟨g1, gb1⟩ := And.intro (right_ok (by assumption) (bounds_iff.1 (zF h1)).1) (right_all (by assumption) (bounds_iff.1 (zF h1)).1)
    have p2 := (T_orders_open e items low high (by first | assumption | omega | (with_reducible exact z9) | (simp only [z8] at * <;> omega) | (simp only [z5, z6, z7, GS.some_l, List.length_set, List.length_append, List.length_cons, List.length_nil] at * <;> first | with_reducible assumption | omega) | (simp only [z5, z6, z7, GS.some_l, List.length_set, List.length_append, List.length_cons, List.length_nil, z8] at * <;> first | with_reducible assumption | omega) | (simp at * <;> omega)) (by first | assumption | omega | (with_reducible exact z9) | (simp only [z8] at * <;> omega) | (simp only [z5, z6, z7, GS.some_l, List.length_set, List.length_append, List.length_cons, List.length_nil] at * <;> first | with_reducible assumption | omega) | (simp only [z5, z6, z7, GS.some_l, List.length_set, List.length_append, List.length_cons, List.length_nil, z8] at * <;> first | with_reducible assumption | omega) | (simp at * <;> omega)) (by first | assumption | omega | (with_reducible exact z9) | (simp only [z8] at * <;> omega) | (simp only [z5, z6, z7, GS.some_l, List.length_set, List.length_append, List.length_cons, List.length_nil] at * <;> first | with_reducible assumption | omega) | (simp only [z5, z6, z7, GS.some_l, List.length_set, List.length_append, List.length_cons, List.length_nil, z8] at * <;> first | with_reducible assumption | omega) | (simp at * <;> omega)))
    cases h2 : ((orders_open e items low high).2) with
    | true =>
      exact zh ((orders_Decides_o1 e items low high) ++ [.dec true]) (And.intro h2 (And.intro p2 (And.intro h1 (And.intro p1 trivial)))) (by kernel_rfl)
    | false =>
      exact zh ((orders_Decides_o1 e items low high) ++ [.dec false]) (And.intro h2 (And.intro p2 (And.intro h1 (And.intro p1 trivial)))) (by kernel_rfl)
end Go.VS
namespace Go.VS
open Go Go.Proofs
set_option maxHeartbeats 0
set_option linter.unusedSimpArgs false
set_option linter.unusedVariables false
noncomputable def lp9_8 : Code := subC [1, 1, 1, 1, 1, 0, 0, 0] (bodyC Tryz.f9)

inductive LR_orders_Need_8 where
  | x0 (v8_0 : Int) (v8_1 : Int)
  | out
instance : Inhabited LR_orders_Need_8 := ⟨.out⟩
def orders_Need_8 (e : S_Estate) (width : Int) : Nat → Int → Int → LR_orders_Need_8
  | 0, _, _ => .out
  | rest8 + 1, v8_0, v8_1 =>
    bif decide (v8_0 < v8_1) then
      bif decide (((zz (ze e (w64 ((w64 (v8_0 + v8_1)).tdiv 2)))).1) ≤ width) then
        orders_Need_8 e width rest8 v8_0 (w64 ((w64 (v8_0 + v8_1)).tdiv 2))
      else
        orders_Need_8 e width rest8 (w64 ((w64 ((w64 (v8_0 + v8_1)).tdiv 2)) + 1)) v8_1
    else
      .x0 v8_0 v8_1
def lr_orders_Need_8 (e : S_Estate) (width : Int) : LR_orders_Need_8 → Exit × St
  | .x0 v8_0 v8_1 => ((.exit 0), ⟨58, [(30, B false), (29, I v8_1), (28, I v8_0), (1, I width), (2, .lref 0 0 3 0), (9, I v8_0), (10, I v8_1)], [(0, ⟨[.agg [.sl e.items.nl (e.items.l.map S_Item.D) (zsl e.items.nl 4) none, I e.whole.lo, I e.whole.hi]], 3, false⟩)], 1, 0⟩)
  | .out => (.normal, ⟨0, [], [], 0, 0⟩)
def orders_Need_8_f_o1 (e : S_Estate) (v8_0 : Int) (v8_1 : Int) : List Ora := [.dec true, .pure (.agg [I ((ze e (w64 ((w64 (v8_0 + v8_1)).tdiv 2))).at_.lo), I ((ze e (w64 ((w64 (v8_0 + v8_1)).tdiv 2))).at_.hi), I ((ze e (w64 ((w64 (v8_0 + v8_1)).tdiv 2))).room_), I ((ze e (w64 ((w64 (v8_0 + v8_1)).tdiv 2))).whole_.lo), I ((ze e (w64 ((w64 (v8_0 + v8_1)).tdiv 2))).whole_.hi)]), .pure (.tup [I ((zz (ze e (w64 ((w64 (v8_0 + v8_1)).tdiv 2)))).1), I ((zz (ze e (w64 ((w64 (v8_0 + v8_1)).tdiv 2)))).2)])]
theorem lp_orders_Need_8 (e : S_Estate) (width : Int) : ∀ (rest8 : Nat) (v8_0 : Int) (v8_1 : Int) (hf8 : orders_Need_8 e width rest8 v8_0 v8_1 ≠ .out) (hn : e.items.l.length ≤ 9223372036854775807), (lim cfg).loop 9 lp9_8 ⟨58, [(1, I width), (2, .lref 0 0 3 0), (9, I v8_0), (10, I v8_1)], [(0, ⟨[.agg [.sl e.items.nl (e.items.l.map S_Item.D) (zsl e.items.nl 4) none, I e.whole.lo, I e.whole.hi]], 3, false⟩)], 1, 0⟩ = some (lr_orders_Need_8 e width (orders_Need_8 e width rest8 v8_0 v8_1)) := by
  intro rest8
  induction rest8 with
  | zero =>
    intro v8_0 v8_1 hf8 hn
    exact absurd rfl hf8
  | succ rest8 ih =>
    intro v8_0 v8_1 hf8 hn
    unfold orders_Need_8 at hf8 ⊢
    revert hf8
    cases h5 : decide (v8_0 < v8_1) with
    | true =>
      have g5 := of_decide_eq_true h5
      have p1 := (T_orders_windowOf e (w64 ((w64 (v8_0 + v8_1)).tdiv 2)) (by first | assumption | omega | (with_reducible exact z9) | (simp only [z8] at * <;> omega) | (simp only [z5, z6, z7, GS.some_l, List.length_set, List.length_append, List.length_cons, List.length_nil] at * <;> first | with_reducible assumption | omega) | (simp only [z5, z6, z7, GS.some_l, List.length_set, List.length_append, List.length_cons, List.length_nil, z8] at * <;> first | with_reducible assumption | omega) | (simp at * <;> omega)))
      have p2 := (T_orders_window_widest (ze e (w64 ((w64 (v8_0 + v8_1)).tdiv 2))))
      cases h6 : decide (((zz (ze e (w64 ((w64 (v8_0 + v8_1)).tdiv 2)))).1) ≤ width) with
      | true =>
        have g6 := of_decide_eq_true h6
        intro hf8
        exact po_turn ((orders_Need_8_f_o1 e v8_0 v8_1) ++ [.dec true]) (And.intro h6 (And.intro p2 (And.intro p1 (And.intro h5 trivial)))) (ih v8_0 (w64 ((w64 (v8_0 + v8_1)).tdiv 2)) hf8 (by first | assumption | omega | (with_reducible exact z9) | (simp only [z8] at * <;> omega) | (simp only [z5, z6, z7, GS.some_l, List.length_set, List.length_append, List.length_cons, List.length_nil] at * <;> first | with_reducible assumption | omega) | (simp only [z5, z6, z7, GS.some_l, List.length_set, List.length_append, List.length_cons, List.length_nil, z8] at * <;> first | with_reducible assumption | omega) | (simp at * <;> omega))) (by kernel_rfl)
      | false =>
        have g6 := of_decide_eq_false h6
        intro hf8
        exact po_turn ((orders_Need_8_f_o1 e v8_0 v8_1) ++ [.dec false]) (And.intro h6 (And.intro p2 (And.intro p1 (And.intro h5 trivial)))) (ih (w64 ((w64 ((w64 (v8_0 + v8_1)).tdiv 2)) + 1)) v8_1 hf8 (by first | assumption | omega | (with_reducible exact z9) | (simp only [z8] at * <;> omega) | (simp only [z5, z6, z7, GS.some_l, List.length_set, List.length_append, List.length_cons, List.length_nil] at * <;> first | with_reducible assumption | omega) | (simp only [z5, z6, z7, GS.some_l, List.length_set, List.length_append, List.length_cons, List.length_nil, z8] at * <;> first | with_reducible assumption | omega) | (simp at * <;> omega))) (by kernel_rfl)
    | false =>
      have g5 := of_decide_eq_false h5
      intro hf8
      exact zH [.dec false] (And.intro h5 trivial) (by kernel_rfl)

theorem need_ne (e : S_Estate) (width : Int) : ∀ (n : Nat) (lo hi : Int), 0 ≤ lo → hi ≤ 2305843009213693952 → (hi - lo).toNat < n → orders_Need_8 e width n lo hi ≠ .out
  | 0, _, _, _, _, h => by omega
  | n + 1, lo, hi, h0, h1, h => by
    unfold orders_Need_8
    cases h2 : decide (lo < hi) with
    | false => simp
    | true =>
      have := of_decide_eq_true h2
      simp only [cond_true]
      have e1 : w64 (lo + hi) = lo + hi := w64_eq (by omega) (by omega)
      have e2 : w64 ((lo + hi).tdiv 2) = (lo + hi).tdiv 2 := w64_eq (by rw [Int.tdiv_eq_ediv_of_nonneg (by omega)]; omega) (by rw [Int.tdiv_eq_ediv_of_nonneg (by omega)]; omega)
      have e3 : w64 ((lo + hi).tdiv 2 + 1) = (lo + hi).tdiv 2 + 1 := w64_eq (by rw [Int.tdiv_eq_ediv_of_nonneg (by omega)]; omega) (by rw [Int.tdiv_eq_ediv_of_nonneg (by omega)]; omega)
      rw [e1, e2, e3]
      rw [Int.tdiv_eq_ediv_of_nonneg (by omega)]
      cases decide ((zz (ze e ((lo + hi) / 2))).1 ≤ width) with
      | true => exact need_ne e width n _ _ h0 (by omega) (by omega)
      | false => exact need_ne e width n _ _ (by omega) h1 (by omega)
theorem need_ne' {e : S_Estate} {width : Int} (h : (zo e != 0) = false) : orders_Need_8 e width ((w64 ((zm e).hi - (zm e).lo) - 0).toNat + 1) 0 (w64 ((zm e).hi - (zm e).lo)) ≠ .out := by
  have hV := check_iff.1 (zF h)
  have hb := sums_bd hV.sp
  have := hV.n2
  rw [all_eq hV.sp hV.n2]
  simp only []
  rw [w64_eq (by omega) (by omega)]
  exact need_ne e width _ _ _ (by omega) (by omega) (by omega)

def orders_Need (e : S_Estate) (width : Int) : Int × Bool × Int :=
  bif ((zo e) != 0) then
    (0, false, (zo e))
  else
    bif decide (width < 0) then
      (0, false, 1)
    else
      match orders_Need_8 e width ((w64 (((zm e).hi) - ((zm e).lo)) - 0).toNat + 1) 0 (w64 (((zm e).hi) - ((zm e).lo))) with
      | .x0 v8_0 v8_1 =>
        bif decide ((zj (zg e (zB ((e.items.l.length : Nat) : Int)))) ≥ v8_0) then
          (v8_0, true, 0)
        else
          (v8_0, false, 0)
      | .out =>
        default

def sd49 (e : S_Estate) (width : Int) (v8_0 : Int) (v8_1 : Int) : St := ⟨58, [(30, B false), (29, I v8_1), (28, I v8_0), (1, I width), (2, .lref 0 0 3 0), (9, I v8_0), (10, I v8_1)], [(0, ⟨[.agg [.sl e.items.nl (e.items.l.map S_Item.D) (zsl e.items.nl 4) none, I e.whole.lo, I e.whole.hi]], 3, false⟩)], 1, 0⟩

def orders_Need_o1 (e : S_Estate) (width : Int) (v8_0 : Int) (v8_1 : Int) : List Ora := [.pure (I (zo e)), .dec false, .dec false, .pure (.agg [I ((zm e).lo), I ((zm e).hi)]), .loop (.exit 0) (sd49 e width v8_0 v8_1), .rw 52 (I ((e.items.l.length : Nat) : Int)), .pure (.sl ((zB ((e.items.l.length : Nat) : Int)).nl) (((zB ((e.items.l.length : Nat) : Int)).l).map I) (zsl ((zB ((e.items.l.length : Nat) : Int)).nl) 1) none), .pure (.sl ((zg e (zB ((e.items.l.length : Nat) : Int))).nl) (((zg e (zB ((e.items.l.length : Nat) : Int))).l).map I) (zsl ((zg e (zB ((e.items.l.length : Nat) : Int))).nl) 1) none), .pure (I (zj (zg e (zB ((e.items.l.length : Nat) : Int)))))]

theorem T_orders_Need (e : S_Estate) (width : Int) (hL_e_items : e.items.l.length ≤ 9223372036854775807) : (lim cfg).pure 9 [S_Estate.D e, I width] = some (.tup [I ((orders_Need e width).1), B ((orders_Need e width).2.1), I ((orders_Need e width).2.2)]) := by
  unfold orders_Need
  cases h1 : ((zo e) != 0) with
  | true =>
    have g1 := y0 h1
    exact zh [.pure (I (zo e)), .dec true] (And.intro h1 (And.intro (zy e) trivial)) (by kernel_rfl)
  | false =>
    have g1 := check_len (zF h1)
    cases h2 : decide (width < 0) with
    | true =>
      have g2 := of_decide_eq_true h2
      exact zh [.pure (I (zo e)), .dec false, .dec true] (And.intro h2 (And.intro h1 (And.intro (zy e) trivial))) (by kernel_rfl)
    | false =>
      have g2 := of_decide_eq_false h2
      cases h7 : orders_Need_8 e width ((w64 (((zm e).hi) - ((zm e).lo)) - 0).toNat + 1) 0 (w64 (((zm e).hi) - ((zm e).lo))) with
      | x0 v8_0 v8_1 =>
        try dsimp only
        have p1 := (po_lr (q := lr_orders_Need_8 e width) (lp_orders_Need_8 e width ((w64 (((zm e).hi) - ((zm e).lo)) - 0).toNat + 1) 0 (w64 (((zm e).hi) - ((zm e).lo))) (need_ne' (e := e) (width := width) (by assumption)) (by first | assumption | omega | (with_reducible exact z9) | (simp only [z8] at * <;> omega) | (simp only [z5, z6, z7, GS.some_l, List.length_set, List.length_append, List.length_cons, List.length_nil] at * <;> first | with_reducible assumption | omega) | (simp only [z5, z6, z7, GS.some_l, List.length_set, List.length_append, List.length_cons, List.length_nil, z8] at * <;> first | with_reducible assumption | omega) | (simp at * <;> omega))) h7)
        have p2 := (T_orders_numbers ((e.items.l.length : Nat) : Int) (by first | assumption | omega | (with_reducible exact z9) | (simp only [z8] at * <;> omega) | (simp only [z5, z6, z7, GS.some_l, List.length_set, List.length_append, List.length_cons, List.length_nil] at * <;> first | with_reducible assumption | omega) | (simp only [z5, z6, z7, GS.some_l, List.length_set, List.length_append, List.length_cons, List.length_nil, z8] at * <;> first | with_reducible assumption | omega) | (simp at * <;> omega)))
        have p3 := (T_orders_gains e (zB ((e.items.l.length : Nat) : Int)) (by first | assumption | omega | (with_reducible exact z9) | (simp only [z8] at * <;> omega) | (simp only [z5, z6, z7, GS.some_l, List.length_set, List.length_append, List.length_cons, List.length_nil] at * <;> first | with_reducible assumption | omega) | (simp only [z5, z6, z7, GS.some_l, List.length_set, List.length_append, List.length_cons, List.length_nil, z8] at * <;> first | with_reducible assumption | omega) | (simp at * <;> omega)) (by first | assumption | omega | (with_reducible exact z9) | (simp only [z8] at * <;> omega) | (simp only [z5, z6, z7, GS.some_l, List.length_set, List.length_append, List.length_cons, List.length_nil] at * <;> first | with_reducible assumption | omega) | (simp only [z5, z6, z7, GS.some_l, List.length_set, List.length_append, List.length_cons, List.length_nil, z8] at * <;> first | with_reducible assumption | omega) | (simp at * <;> omega)))
        have p4 := (T_orders_total (zg e (zB ((e.items.l.length : Nat) : Int))) (by first | assumption | omega | (with_reducible exact z9) | (simp only [z8] at * <;> omega) | (simp only [z5, z6, z7, GS.some_l, List.length_set, List.length_append, List.length_cons, List.length_nil] at * <;> first | with_reducible assumption | omega) | (simp only [z5, z6, z7, GS.some_l, List.length_set, List.length_append, List.length_cons, List.length_nil, z8] at * <;> first | with_reducible assumption | omega) | (simp at * <;> omega)))
        cases h8 : decide ((zj (zg e (zB ((e.items.l.length : Nat) : Int)))) ≥ v8_0) with
        | true =>
          have g8 := of_decide_eq_true h8
          exact zh ((orders_Need_o1 e width v8_0 v8_1) ++ [.dec true]) (And.intro h8 (And.intro p4 (And.intro p3 (And.intro p2 (And.intro (zn S_Item.D e.items) (And.intro p1 (And.intro (T_orders_all e (by first | assumption | omega | (with_reducible exact z9) | (simp only [z8] at * <;> omega) | (simp only [z5, z6, z7, GS.some_l, List.length_set, List.length_append, List.length_cons, List.length_nil] at * <;> first | with_reducible assumption | omega) | (simp only [z5, z6, z7, GS.some_l, List.length_set, List.length_append, List.length_cons, List.length_nil, z8] at * <;> first | with_reducible assumption | omega) | (simp at * <;> omega))) (And.intro h2 (And.intro h1 (And.intro (zy e) trivial)))))))))) (by kernel_rfl)
        | false =>
          have g8 := of_decide_eq_false h8
          exact zh ((orders_Need_o1 e width v8_0 v8_1) ++ [.dec false]) (And.intro h8 (And.intro p4 (And.intro p3 (And.intro p2 (And.intro (zn S_Item.D e.items) (And.intro p1 (And.intro (T_orders_all e (by first | assumption | omega | (with_reducible exact z9) | (simp only [z8] at * <;> omega) | (simp only [z5, z6, z7, GS.some_l, List.length_set, List.length_append, List.length_cons, List.length_nil] at * <;> first | with_reducible assumption | omega) | (simp only [z5, z6, z7, GS.some_l, List.length_set, List.length_append, List.length_cons, List.length_nil, z8] at * <;> first | with_reducible assumption | omega) | (simp at * <;> omega))) (And.intro h2 (And.intro h1 (And.intro (zy e) trivial)))))))))) (by kernel_rfl)
      | out =>
        exact absurd h7 (need_ne' (e := e) (width := width) (by assumption))
end Go.VS
/-
  Orders: sorting few numbers; the widest span that is left. (A text of this claim's own; nothing of it is trusted.)
-/
namespace Go.VS
/-! ### sorting -/
theorem less_eq (a b : Int) : cmp_Less a b = decide (a < b) := by
  unfold cmp_Less cmp_isNaN
  simp only [bne_self_eq_false, cond_false]
  cases decide (a < b) <;> rfl
def insr (x : Int) : List Int → List Int
  | [] => [x]
  | y :: l => if x < y then y :: insr x l else x :: y :: l
theorem insr_perm (x : Int) : ∀ l, List.Perm (insr x l) (x :: l)
  | [] => List.Perm.refl _
  | y :: l => by
    unfold insr
    split
    · exact ((insr_perm x l).cons y).trans (List.Perm.swap x y l)
    · exact List.Perm.refl _
theorem insr_sorted (x : Int) : ∀ {l : List Int}, l.Pairwise (· ≥ ·) → (insr x l).Pairwise (· ≥ ·)
  | [], _ => by simp [insr]
  | y :: l, h => by
    unfold insr
    have h' := List.pairwise_cons.1 h
    split
    · refine List.pairwise_cons.2 ⟨fun z hz => ?_, insr_sorted x h'.2⟩
      rcases List.mem_cons.1 ((insr_perm x l).mem_iff.1 hz) with rfl | hz
      · omega
      · exact h'.1 z hz
    · refine List.pairwise_cons.2 ⟨fun z hz => ?_, h⟩
      rcases List.mem_cons.1 hz with rfl | hz
      · omega
      · have := h'.1 z hz; omega
theorem insr_len (x : Int) (l : List Int) : (insr x l).length = l.length + 1 := by rw [(insr_perm x l).length_eq, List.length_cons]
theorem ins4 : ∀ (R : List Int) (x : Int) (B : List Int) (n : Nat), R.length < n → R.length ≤ 1000 →
    ∃ j, isort4_4 n (R.length : Int) (R.reverse ++ x :: B) = .x0 j ((insr x R).reverse ++ B) ∨ isort4_4 n (R.length : Int) (R.reverse ++ x :: B) = .x1 j ((insr x R).reverse ++ B)
  | _, _, _, 0, h, _ => by omega
  | [], x, B, n + 1, _, _ => ⟨0, .inr (by simp [isort4_4, insr])⟩
  | y :: R, x, B, n + 1, h, hb => by
    simp only [List.length_cons] at h hb
    have e0 : decide ((((y :: R).length : Nat) : Int) > 0) = true := decide_eq_true (by simp only [List.length_cons]; omega)
    have e1 : w64 ((((y :: R).length : Nat) : Int) - 1) = (R.length : Int) := by simp only [List.length_cons]; rw [w64_eq (by omega) (by omega)]; omega
    have e2 : ((y :: R).reverse ++ x :: B) = R.reverse ++ y :: x :: B := by simp
    have g1 : (R.reverse ++ y :: x :: B).getD (((y :: R).length : Nat) : Int).toNat default = x := by
      simp only [List.length_cons, Int.toNat_natCast]
      rw [List.getD_eq_getElem?_getD, List.getElem?_append_right (by simp)]
      simp
    have g2 : (R.reverse ++ y :: x :: B).getD (R.length : Int).toNat default = y := by
      simp only [Int.toNat_natCast]
      rw [List.getD_eq_getElem?_getD, List.getElem?_append_right (by simp)]
      simp
    have g3 : ((R.reverse ++ y :: x :: B).set (((y :: R).length : Nat) : Int).toNat y).set (R.length : Int).toNat x = R.reverse ++ x :: y :: B := by
      simp only [List.length_cons, Int.toNat_natCast]
      rw [List.set_append_right _ _ (by simp)]
      simp only [List.length_reverse, Nat.add_sub_cancel_left]
      rw [List.set_append_right _ _ (by simp)]
      simp
    unfold isort4_4
    rw [e0, e1, e2, g1, g2, g3, less_eq]
    simp only [cond_true]
    by_cases hxy : x < y
    · rw [decide_eq_true hxy]
      simp only [cond_true]
      obtain ⟨j, hj⟩ := ins4 R x (y :: B) n (by omega) (by omega)
      refine ⟨j, ?_⟩
      have e3 : (insr x (y :: R)).reverse ++ B = (insr x R).reverse ++ y :: B := by
        rw [insr, if_pos hxy]; simp
      rw [e3]
      exact hj
    · rw [decide_eq_false hxy]
      simp only [cond_false]
      refine ⟨(((y :: R).length : Nat) : Int), .inl ?_⟩
      have e3 : (insr x (y :: R)).reverse ++ B = R.reverse ++ y :: x :: B := by
        rw [insr, if_neg hxy]; simp
      rw [e3]
theorem ins1 : ∀ (B R : List Int) (n : Nat), n = B.length → R.length + B.length ≤ 1000 → ∃ i, isort4_1 n R.length (R.reverse ++ B) = .x0 i (B.foldl (fun S x => insr x S) R).reverse
  | [], R, n, h, _ => by subst h; exact ⟨R.length, by simp [isort4_1]⟩
  | x :: B, R, n, h, hb => by
    subst h
    simp only [List.length_cons] at hb
    simp only [List.length_cons, List.foldl_cons]
    unfold isort4_1
    obtain ⟨i, hi⟩ := ins1 B (insr x R) B.length rfl (by rw [insr_len]; omega)
    rw [insr_len] at hi
    obtain ⟨j, hj⟩ := ins4 R x B (R.length + 1) (by omega) (by omega)
    refine ⟨i, ?_⟩
    rcases hj with hj | hj <;> rw [hj] <;> exact hi
def srt (l : List Int) : List Int := (l.foldl (fun S x => insr x S) []).reverse
theorem isort_eq {l : List Int} (h : l.length ≤ 1000) : isort4 l = srt l := by
  unfold isort4 srt
  cases l with
  | nil => rfl
  | cons x l =>
    simp only [List.length_cons] at h
    obtain ⟨i, hi⟩ := ins1 l [x] l.length rfl (by simp; omega)
    have e : (((((x :: l).length : Nat) : Int)) - 1).toNat = l.length := by simp
    rw [e]
    have e2 : isort4_1 l.length 1 (x :: l) = .x0 i (l.foldl (fun S x => insr x S) [x]).reverse := hi
    rw [e2]
    rfl
theorem fold_perm : ∀ (l S : List Int), List.Perm (l.foldl (fun S x => insr x S) S) (l ++ S)
  | [], S => List.Perm.refl _
  | x :: l, S => (fold_perm l (insr x S)).trans (((insr_perm x S).append_left l).trans (List.perm_middle))
theorem fold_sorted : ∀ (l : List Int) {S : List Int}, S.Pairwise (· ≥ ·) → (l.foldl (fun S x => insr x S) S).Pairwise (· ≥ ·)
  | [], _, h => h
  | x :: l, _, h => fold_sorted l (insr_sorted x h)
theorem srt_perm (l : List Int) : List.Perm (srt l) l := by
  have := fold_perm l []
  rw [List.append_nil] at this
  exact (List.reverse_perm _).trans this
theorem srt_sorted (l : List Int) : (srt l).Pairwise (· ≤ ·) := by
  unfold srt
  rw [List.pairwise_reverse]
  exact fold_sorted l List.Pairwise.nil
/-! ### the widest -/
/-- Where the first greatest one is. -/
theorem wide6 {w : S_window} {f : Int → Int} : ∀ (l : List Int) (b p m s0 : Int), (∀ s ∈ l, w64 ((zk w s).hi - (zk w s).lo) = f s) → l.Pairwise (· ≤ ·) → b < m → (∀ s ∈ l, f s ≤ m) → s0 ∈ l → f s0 = m → (∀ s ∈ l, f s = m → s0 ≤ s) →
    zP w l b p = .x0 m s0
  | [], _, _, _, _, _, _, _, _, h, _, _ => by cases h
  | x :: l, b, p, m, s0, hf, hs, hb, hm, h0, h1, h2 => by
    have hs' := List.pairwise_cons.1 hs
    have hx := hm x List.mem_cons_self
    unfold zP
    rw [hf x List.mem_cons_self]
    by_cases he : f x = m
    · have h3 := h2 x List.mem_cons_self he
      have h4 : s0 = x := by
        rcases List.mem_cons.1 h0 with h | h
        · exact h
        · have := hs'.1 s0 h; omega
      subst h4
      rw [decide_eq_true (by omega : f s0 > b)]
      simp only [cond_true]
      rw [h1]
      have key : ∀ (l : List Int), (∀ s ∈ l, w64 ((zk w s).hi - (zk w s).lo) = f s) → (∀ s ∈ l, f s ≤ m) → zP w l m s0 = .x0 m s0 := by
        intro l
        induction l with
        | nil => intro _ _; rfl
        | cons y l ih =>
          intro hf hm
          unfold zP
          rw [hf y List.mem_cons_self, decide_eq_false (by have := hm y List.mem_cons_self; omega : ¬ f y > m)]
          exact ih (fun s hs => hf s (List.mem_cons_of_mem _ hs)) (fun s hs => hm s (List.mem_cons_of_mem _ hs))
      exact key l (fun s hs => hf s (List.mem_cons_of_mem _ hs)) (fun s hs => hm s (List.mem_cons_of_mem _ hs))
    · have h4 : s0 ∈ l := by
        rcases List.mem_cons.1 h0 with h | h
        · subst h; exact absurd h1 he
        · exact h
      cases decide (f x > b) with
      | true => exact wide6 l _ _ m s0 (fun s hs => hf s (List.mem_cons_of_mem _ hs)) hs'.2 (by omega) (fun s hs => hm s (List.mem_cons_of_mem _ hs)) h4 h1 (fun s hs => h2 s (List.mem_cons_of_mem _ hs))
      | false => exact wide6 l _ _ m s0 (fun s hs => hf s (List.mem_cons_of_mem _ hs)) hs'.2 hb (fun s hs => hm s (List.mem_cons_of_mem _ hs)) h4 h1 (fun s hs => h2 s (List.mem_cons_of_mem _ hs))
/-- A window's numbers are not out of bounds. -/
structure Wk (w : S_window) : Prop where
  l0 : 0 ≤ w.at_.lo
  l1 : w.at_.lo ≤ w.at_.hi
  l2 : w.at_.hi + w.room_ ≤ 12884901888
  r0 : 0 ≤ w.room_
  w0 : 0 ≤ w.whole_.lo
  w1 : w.whole_.lo ≤ w.whole_.hi
  w2 : w.whole_.hi ≤ 17179869184
  m0 : w.at_.lo ≤ w.whole_.hi
  m1 : w.whole_.lo ≤ w.at_.hi + w.room_
def wlo (w : S_window) : Int := max 0 (w.whole_.lo - w.at_.hi)
def whi (w : S_window) : Int := min w.room_ (w.whole_.hi - w.at_.lo)
/-- The width if so much is added. -/
def wf (w : S_window) (s : Int) : Int := min (w.at_.hi + s) w.whole_.hi - max (w.at_.lo + s) w.whole_.lo
theorem ends_eq {w : S_window} (h : Wk w) : za w = (wlo w, whi w) := by
  obtain ⟨a, b, c, d, e, f, g, i, j⟩ := h
  unfold za wlo whi
  rw [imax_eq, imin_eq, w64_eq (by omega) (by omega), w64_eq (by omega) (by omega)]
theorem seen_eq {w : S_window} (h : Wk w) {s : Int} (h0 : 0 ≤ s) (h1 : s ≤ w.room_) : zk w s = ⟨max (w.at_.lo + s) w.whole_.lo, min (w.at_.hi + s) w.whole_.hi⟩ := by
  obtain ⟨a, b, c, d, e, f, g, i, j⟩ := h
  unfold zk
  rw [w64_eq (by omega) (by omega), w64_eq (by omega) (by omega), common_eq]
  simp only []
  cases decide (max (w.at_.lo + s) w.whole_.lo ≤ min (w.at_.hi + s) w.whole_.hi) <;> rfl
/-- The greatest width; the least number added for it. -/
def wpos (w : S_window) : Int := min (max (min (w.whole_.lo - w.at_.lo) (w.whole_.hi - w.at_.hi)) (wlo w)) (whi w)
theorem widest_eq {w : S_window} (h : Wk w) : zz w = (wf w (wpos w), wpos w) := by
  have hk := h
  obtain ⟨a, b, c, d, e, f, g, i, j⟩ := h
  unfold zz
  rw [ends_eq hk]
  simp only []
  rw [imax_eq, imax_eq, imin_eq, imin_eq, w64_eq (n := w.whole_.lo - w.at_.lo) (by omega) (by omega), w64_eq (n := w.whole_.hi - w.at_.hi) (by omega) (by omega)]
  have hle : wlo w ≤ whi w := by unfold wlo whi; omega
  have hlo : 0 ≤ wlo w := by unfold wlo; omega
  have hhi : whi w ≤ w.room_ := by unfold whi; omega
  have hs4 : ∀ l : List Int, l.length ≤ 1000 → sort4 l = srt l := fun l hl => isort_eq hl
  rw [hs4 _ (by simp)]
  have hmem : ∀ s, s ∈ srt [wlo w, whi w, min (max (w.whole_.lo - w.at_.lo) (wlo w)) (whi w), min (max (w.whole_.hi - w.at_.hi) (wlo w)) (whi w)] ↔ s ∈ [wlo w, whi w, min (max (w.whole_.lo - w.at_.lo) (wlo w)) (whi w), min (max (w.whole_.hi - w.at_.hi) (wlo w)) (whi w)] := fun s => (srt_perm _).mem_iff
  have hin : ∀ s ∈ srt [wlo w, whi w, min (max (w.whole_.lo - w.at_.lo) (wlo w)) (whi w), min (max (w.whole_.hi - w.at_.hi) (wlo w)) (whi w)], wlo w ≤ s ∧ s ≤ whi w := by
    intro s hs
    have := (hmem s).1 hs
    simp only [List.mem_cons, List.mem_nil_iff, or_false] at this
    omega
  rw [wide6 (f := wf w) _ (-1) 0 (wf w (wpos w)) (wpos w)]
  · intro s hs
    have := hin s hs
    rw [seen_eq hk (by omega) (by omega)]
    unfold wf
    exact w64_eq (by simp only []; omega) (by simp only []; omega)
  · exact srt_sorted _
  · unfold wf wpos wlo whi; omega
  · intro s hs
    have := hin s hs
    unfold wf wpos wlo whi at *
    omega
  · rw [hmem]
    simp only [List.mem_cons, List.mem_nil_iff, or_false]
    unfold wpos
    omega
  · rfl
  · intro s hs hsm
    have := hin s hs
    unfold wf wpos wlo whi at *
    omega
end Go.VS
namespace Go.VS
open Go Go.Proofs
set_option maxHeartbeats 0
set_option linter.unusedSimpArgs false
set_option linter.unusedVariables false
noncomputable def lp107_2 : Code := subC [1, 0, 1, 0, 0] (bodyC Tryz.f107)

inductive LR_r_Right_2 where
  | x0
  | x1 (i2 : Nat) (x2 : Int)
  | x2 (i2 : Nat) (x2 : Int)
  | x3 (i2 : Nat) (x2 : Int)
instance : Inhabited LR_r_Right_2 := ⟨.x0⟩
def r_Right_2 (e : S_Estate) (items : GS Int) : List Int → Nat → LR_r_Right_2
  | [], i2 => .x0
  | x2 :: rest2, i2 =>
    bif decide (x2 < 0) then
      .x1 i2 x2
    else
      bif decide (x2 ≥ ((e.items.l.length : Nat) : Int)) then
        .x2 i2 x2
      else
        bif decide (((i2 : Nat) : Int) > 0) then
          bif decide ((GS.at items (w64 (((i2 : Nat) : Int) - 1))) ≥ x2) then
            .x3 i2 x2
          else
            r_Right_2 e items rest2 (i2 + 1)
        else
          r_Right_2 e items rest2 (i2 + 1)
def lr_r_Right_2 (e : S_Estate) (items : GS Int) : LR_r_Right_2 → Exit × St
  | .x0 => ((.exit 0), ⟨43, [(9, B false), (8, I ((items.l.length : Nat) : Int)), (7, .sl items.nl (items.l.map I) (zsl items.nl 1) none), (6, I ((items.l.length : Nat) : Int)), (1, .sl items.nl (items.l.map I) (zsl items.nl 1) none), (2, .lref 0 0 3 0), (5, I ((items.l.length : Nat) : Int))], [(0, ⟨[.agg [.sl e.items.nl (e.items.l.map S_Item.D) (zsl e.items.nl 4) none, I e.whole.lo, I e.whole.hi]], 3, false⟩)], 1, 0⟩)
  | .x1 i2 x2 => (.ret, ⟨43, [(4, B false), (42, B true), (41, .tup []), (40, .tup []), (39, .tup []), (38, .tup []), (37, .tup []), (36, .tup []), (35, .tup []), (34, .tup []), (33, .tup []), (32, .tup []), (31, .tup []), (30, .tup []), (29, .tup []), (28, .tup []), (27, B true), (26, B true), (25, .tup []), (24, .tup []), (23, .tup []), (22, .tup []), (21, .tup []), (20, .tup []), (19, .tup []), (18, .tup []), (17, B true), (16, B true), (15, I x2), (14, .ptr (I x2)), (13, I ((i2 : Nat) : Int)), (12, .sl items.nl (items.l.map I) (zsl items.nl 1) none), (9, B true), (8, I ((items.l.length : Nat) : Int)), (7, .sl items.nl (items.l.map I) (zsl items.nl 1) none), (6, I ((i2 : Nat) : Int)), (1, .sl items.nl (items.l.map I) (zsl items.nl 1) none), (2, .lref 0 0 3 0), (5, I ((i2 : Nat) : Int))], [(0, ⟨[.agg [.sl e.items.nl (e.items.l.map S_Item.D) (zsl e.items.nl 4) none, I e.whole.lo, I e.whole.hi]], 3, false⟩)], 1, 0⟩)
  | .x2 i2 x2 => (.ret, ⟨43, [(4, B false), (42, B true), (41, .tup []), (40, .tup []), (39, .tup []), (38, .tup []), (37, .tup []), (36, .tup []), (35, .tup []), (34, .tup []), (33, .tup []), (32, .tup []), (31, .tup []), (30, .tup []), (29, .tup []), (28, .tup []), (27, B true), (26, B true), (25, B true), (24, I ((e.items.l.length : Nat) : Int)), (23, .sl e.items.nl (e.items.l.map S_Item.D) (zsl e.items.nl 4) none), (22, .lref 0 0 3 0), (21, I x2), (20, .ptr (I x2)), (19, I ((i2 : Nat) : Int)), (18, .sl items.nl (items.l.map I) (zsl items.nl 1) none), (17, B false), (16, B false), (15, I x2), (14, .ptr (I x2)), (13, I ((i2 : Nat) : Int)), (12, .sl items.nl (items.l.map I) (zsl items.nl 1) none), (9, B true), (8, I ((items.l.length : Nat) : Int)), (7, .sl items.nl (items.l.map I) (zsl items.nl 1) none), (6, I ((i2 : Nat) : Int)), (1, .sl items.nl (items.l.map I) (zsl items.nl 1) none), (2, .lref 0 0 3 0), (5, I ((i2 : Nat) : Int))], [(0, ⟨[.agg [.sl e.items.nl (e.items.l.map S_Item.D) (zsl e.items.nl 4) none, I e.whole.lo, I e.whole.hi]], 3, false⟩)], 1, 0⟩)
  | .x3 i2 x2 => (.ret, ⟨43, [(4, B false), (42, B true), (41, B true), (40, B true), (39, I x2), (38, .ptr (I x2)), (37, I ((i2 : Nat) : Int)), (36, .sl items.nl (items.l.map I) (zsl items.nl 1) none), (35, I (GS.at items (w64 (((i2 : Nat) : Int) - 1)))), (34, .ptr (I (GS.at items (w64 (((i2 : Nat) : Int) - 1))))), (33, I (w64 (((i2 : Nat) : Int) - 1))), (32, I ((i2 : Nat) : Int)), (31, .sl items.nl (items.l.map I) (zsl items.nl 1) none), (30, B true), (29, B true), (28, I ((i2 : Nat) : Int)), (27, B false), (26, B false), (25, B false), (24, I ((e.items.l.length : Nat) : Int)), (23, .sl e.items.nl (e.items.l.map S_Item.D) (zsl e.items.nl 4) none), (22, .lref 0 0 3 0), (21, I x2), (20, .ptr (I x2)), (19, I ((i2 : Nat) : Int)), (18, .sl items.nl (items.l.map I) (zsl items.nl 1) none), (17, B false), (16, B false), (15, I x2), (14, .ptr (I x2)), (13, I ((i2 : Nat) : Int)), (12, .sl items.nl (items.l.map I) (zsl items.nl 1) none), (9, B true), (8, I ((items.l.length : Nat) : Int)), (7, .sl items.nl (items.l.map I) (zsl items.nl 1) none), (6, I ((i2 : Nat) : Int)), (1, .sl items.nl (items.l.map I) (zsl items.nl 1) none), (2, .lref 0 0 3 0), (5, I ((i2 : Nat) : Int))], [(0, ⟨[.agg [.sl e.items.nl (e.items.l.map S_Item.D) (zsl e.items.nl 4) none, I e.whole.lo, I e.whole.hi]], 3, false⟩)], 1, 0⟩)
def r_Right_2_l_o1 (e : S_Estate) (items : GS Int) (x2 : Int) : List Ora := [.rw 8 (I ((items.l.length : Nat) : Int)), .dec true, .el (I x2), .dec false, .el (I x2), .rw 24 (I ((e.items.l.length : Nat) : Int))]
theorem lp_r_Right_2 (e : S_Estate) (items : GS Int) : ∀ (rest2 : List Int) (i2 : Nat) (hd2 : items.l.drop i2 = rest2) (hi2 : i2 ≤ items.l.length) (hL2 : items.l.length ≤ 9223372036854775807), (lim cfg).loop 107 lp107_2 ⟨43, [(1, .sl items.nl (items.l.map I) (zsl items.nl 1) none), (2, .lref 0 0 3 0), (5, I ((i2 : Nat) : Int))], [(0, ⟨[.agg [.sl e.items.nl (e.items.l.map S_Item.D) (zsl e.items.nl 4) none, I e.whole.lo, I e.whole.hi]], 3, false⟩)], 1, 0⟩ = some (lr_r_Right_2 e items (r_Right_2 e items rest2 i2)) := by
  intro rest2
  induction rest2 with
  | nil =>
    intro i2 hd2 hi2 hL2
    unfold r_Right_2
    obtain rfl : i2 = items.l.length := nil_eq hd2 hi2
    exact zH [.rw 8 (I ((items.l.length : Nat) : Int)), .dec false] (And.intro (lt_no hd2) (And.intro (zn I items) trivial)) (by kernel_rfl)
  | cons x2 rest2 ih =>
    intro i2 hd2 hi2 hL2
    have hlt2 := zv hd2
    unfold r_Right_2
    have p1 := (el_at (s := items) (f := I) (k := 1) hd2)
    cases h5 : decide (x2 < 0) with
    | true =>
      have g5 := of_decide_eq_true h5
      exact zH [.rw 8 (I ((items.l.length : Nat) : Int)), .dec true, .el (I x2), .dec true] (And.intro h5 (And.intro p1 (And.intro (lt_at hd2) (And.intro (zn I items) trivial)))) (by kernel_rfl)
    | false =>
      have g5 := of_decide_eq_false h5
      have p2 := (el_at (s := items) (f := I) (k := 1) hd2)
      cases h6 : decide (x2 ≥ ((e.items.l.length : Nat) : Int)) with
      | true =>
        have g6 := of_decide_eq_true h6
        exact zH ((r_Right_2_l_o1 e items x2) ++ [.dec true]) (And.intro h6 (And.intro (zn S_Item.D e.items) (And.intro p2 (And.intro h5 (And.intro p1 (And.intro (lt_at hd2) (And.intro (zn I items) trivial))))))) (by kernel_rfl)
      | false =>
        have g6 := of_decide_eq_false h6
        cases h7 : decide (((i2 : Nat) : Int) > 0) with
        | true =>
          have g7 := of_decide_eq_true h7
          have p3 := (el_in (s := items) (f := I) (k := 1) (i := w64 (((i2 : Nat) : Int) - 1)) (by first | assumption | omega | (with_reducible exact z9) | (simp only [z8] at * <;> omega) | (simp only [z5, z6, z7, GS.some_l, List.length_set, List.length_append, List.length_cons, List.length_nil] at * <;> first | with_reducible assumption | omega) | (simp only [z5, z6, z7, GS.some_l, List.length_set, List.length_append, List.length_cons, List.length_nil, z8] at * <;> first | with_reducible assumption | omega) | (simp at * <;> omega)) (by first | assumption | omega | (with_reducible exact z9) | (simp only [z8] at * <;> omega) | (simp only [z5, z6, z7, GS.some_l, List.length_set, List.length_append, List.length_cons, List.length_nil] at * <;> first | with_reducible assumption | omega) | (simp only [z5, z6, z7, GS.some_l, List.length_set, List.length_append, List.length_cons, List.length_nil, z8] at * <;> first | with_reducible assumption | omega) | (simp at * <;> omega)))
          have p4 := (el_at (s := items) (f := I) (k := 1) hd2)
          cases h8 : decide ((GS.at items (w64 (((i2 : Nat) : Int) - 1))) ≥ x2) with
          | true =>
            have g8 := of_decide_eq_true h8
            exact zH ((r_Right_2_l_o1 e items x2) ++ [.dec false, .dec true, .el (I (GS.at items (w64 (((i2 : Nat) : Int) - 1)))), .el (I x2), .dec true]) (And.intro h8 (And.intro p4 (And.intro p3 (And.intro h7 (And.intro h6 (And.intro (zn S_Item.D e.items) (And.intro p2 (And.intro h5 (And.intro p1 (And.intro (lt_at hd2) (And.intro (zn I items) trivial))))))))))) (by kernel_rfl)
          | false =>
            have g8 := of_decide_eq_false h8
            exact po_turn ((r_Right_2_l_o1 e items x2) ++ [.dec false, .dec true, .el (I (GS.at items (w64 (((i2 : Nat) : Int) - 1)))), .el (I x2), .dec false, .rw 11 (I ((i2 + 1 : Nat) : Int))]) (And.intro (inc_rw (i := i2) (by have := zv hd2; omega)) (And.intro h8 (And.intro p4 (And.intro p3 (And.intro h7 (And.intro h6 (And.intro (zn S_Item.D e.items) (And.intro p2 (And.intro h5 (And.intro p1 (And.intro (lt_at hd2) (And.intro (zn I items) trivial)))))))))))) (ih (i2 + 1) (zA hd2) (zv hd2) (by first | assumption | omega | (with_reducible exact z9) | (simp only [z8] at * <;> omega) | (simp only [z5, z6, z7, GS.some_l, List.length_set, List.length_append, List.length_cons, List.length_nil] at * <;> first | with_reducible assumption | omega) | (simp only [z5, z6, z7, GS.some_l, List.length_set, List.length_append, List.length_cons, List.length_nil, z8] at * <;> first | with_reducible assumption | omega) | (simp at * <;> omega))) (by kernel_rfl)
        | false =>
          have g7 := of_decide_eq_false h7
          exact po_turn ((r_Right_2_l_o1 e items x2) ++ [.dec false, .dec false, .rw 11 (I ((i2 + 1 : Nat) : Int))]) (And.intro (inc_rw (i := i2) (by have := zv hd2; omega)) (And.intro h7 (And.intro h6 (And.intro (zn S_Item.D e.items) (And.intro p2 (And.intro h5 (And.intro p1 (And.intro (lt_at hd2) (And.intro (zn I items) trivial))))))))) (ih (i2 + 1) (zA hd2) (zv hd2) (by first | assumption | omega | (with_reducible exact z9) | (simp only [z8] at * <;> omega) | (simp only [z5, z6, z7, GS.some_l, List.length_set, List.length_append, List.length_cons, List.length_nil] at * <;> first | with_reducible assumption | omega) | (simp only [z5, z6, z7, GS.some_l, List.length_set, List.length_append, List.length_cons, List.length_nil, z8] at * <;> first | with_reducible assumption | omega) | (simp at * <;> omega))) (by kernel_rfl)

def r_Right (e : S_Estate) (items : GS Int) : Bool :=
  match r_Right_2 e items items.l 0 with
  | .x0 =>
    true
  | .x1 i2 x2 =>
    false
  | .x2 i2 x2 =>
    false
  | .x3 i2 x2 =>
    false

def sd50 (e : S_Estate) (items : GS Int) : St := ⟨43, [(9, B false), (8, I ((items.l.length : Nat) : Int)), (7, .sl items.nl (items.l.map I) (zsl items.nl 1) none), (6, I ((items.l.length : Nat) : Int)), (1, .sl items.nl (items.l.map I) (zsl items.nl 1) none), (2, .lref 0 0 3 0), (5, I ((items.l.length : Nat) : Int))], [(0, ⟨[.agg [.sl e.items.nl (e.items.l.map S_Item.D) (zsl e.items.nl 4) none, I e.whole.lo, I e.whole.hi]], 3, false⟩)], 1, 0⟩

def sd51 (e : S_Estate) (items : GS Int) (i2 : Nat) (x2 : Int) : St := ⟨43, [(4, B false), (42, B true), (41, .tup []), (40, .tup []), (39, .tup []), (38, .tup []), (37, .tup []), (36, .tup []), (35, .tup []), (34, .tup []), (33, .tup []), (32, .tup []), (31, .tup []), (30, .tup []), (29, .tup []), (28, .tup []), (27, B true), (26, B true), (25, .tup []), (24, .tup []), (23, .tup []), (22, .tup []), (21, .tup []), (20, .tup []), (19, .tup []), (18, .tup []), (17, B true), (16, B true), (15, I x2), (14, .ptr (I x2)), (13, I ((i2 : Nat) : Int)), (12, .sl items.nl (items.l.map I) (zsl items.nl 1) none), (9, B true), (8, I ((items.l.length : Nat) : Int)), (7, .sl items.nl (items.l.map I) (zsl items.nl 1) none), (6, I ((i2 : Nat) : Int)), (1, .sl items.nl (items.l.map I) (zsl items.nl 1) none), (2, .lref 0 0 3 0), (5, I ((i2 : Nat) : Int))], [(0, ⟨[.agg [.sl e.items.nl (e.items.l.map S_Item.D) (zsl e.items.nl 4) none, I e.whole.lo, I e.whole.hi]], 3, false⟩)], 1, 0⟩

def sd52 (e : S_Estate) (items : GS Int) (i2 : Nat) (x2 : Int) : St := ⟨43, [(4, B false), (42, B true), (41, .tup []), (40, .tup []), (39, .tup []), (38, .tup []), (37, .tup []), (36, .tup []), (35, .tup []), (34, .tup []), (33, .tup []), (32, .tup []), (31, .tup []), (30, .tup []), (29, .tup []), (28, .tup []), (27, B true), (26, B true), (25, B true), (24, I ((e.items.l.length : Nat) : Int)), (23, .sl e.items.nl (e.items.l.map S_Item.D) (zsl e.items.nl 4) none), (22, .lref 0 0 3 0), (21, I x2), (20, .ptr (I x2)), (19, I ((i2 : Nat) : Int)), (18, .sl items.nl (items.l.map I) (zsl items.nl 1) none), (17, B false), (16, B false), (15, I x2), (14, .ptr (I x2)), (13, I ((i2 : Nat) : Int)), (12, .sl items.nl (items.l.map I) (zsl items.nl 1) none), (9, B true), (8, I ((items.l.length : Nat) : Int)), (7, .sl items.nl (items.l.map I) (zsl items.nl 1) none), (6, I ((i2 : Nat) : Int)), (1, .sl items.nl (items.l.map I) (zsl items.nl 1) none), (2, .lref 0 0 3 0), (5, I ((i2 : Nat) : Int))], [(0, ⟨[.agg [.sl e.items.nl (e.items.l.map S_Item.D) (zsl e.items.nl 4) none, I e.whole.lo, I e.whole.hi]], 3, false⟩)], 1, 0⟩

def sd53 (e : S_Estate) (items : GS Int) (i2 : Nat) (x2 : Int) : St := ⟨43, [(4, B false), (42, B true), (41, B true), (40, B true), (39, I x2), (38, .ptr (I x2)), (37, I ((i2 : Nat) : Int)), (36, .sl items.nl (items.l.map I) (zsl items.nl 1) none), (35, I (GS.at items (w64 (((i2 : Nat) : Int) - 1)))), (34, .ptr (I (GS.at items (w64 (((i2 : Nat) : Int) - 1))))), (33, I (w64 (((i2 : Nat) : Int) - 1))), (32, I ((i2 : Nat) : Int)), (31, .sl items.nl (items.l.map I) (zsl items.nl 1) none), (30, B true), (29, B true), (28, I ((i2 : Nat) : Int)), (27, B false), (26, B false), (25, B false), (24, I ((e.items.l.length : Nat) : Int)), (23, .sl e.items.nl (e.items.l.map S_Item.D) (zsl e.items.nl 4) none), (22, .lref 0 0 3 0), (21, I x2), (20, .ptr (I x2)), (19, I ((i2 : Nat) : Int)), (18, .sl items.nl (items.l.map I) (zsl items.nl 1) none), (17, B false), (16, B false), (15, I x2), (14, .ptr (I x2)), (13, I ((i2 : Nat) : Int)), (12, .sl items.nl (items.l.map I) (zsl items.nl 1) none), (9, B true), (8, I ((items.l.length : Nat) : Int)), (7, .sl items.nl (items.l.map I) (zsl items.nl 1) none), (6, I ((i2 : Nat) : Int)), (1, .sl items.nl (items.l.map I) (zsl items.nl 1) none), (2, .lref 0 0 3 0), (5, I ((i2 : Nat) : Int))], [(0, ⟨[.agg [.sl e.items.nl (e.items.l.map S_Item.D) (zsl e.items.nl 4) none, I e.whole.lo, I e.whole.hi]], 3, false⟩)], 1, 0⟩

theorem T_r_Right (e : S_Estate) (items : GS Int) (hL : items.l.length ≤ 9223372036854775807) : (lim cfg).pure 107 [S_Estate.D e, GS.D I 1 items] = some (B (r_Right e items)) := by
  unfold r_Right
  cases h9 : r_Right_2 e items items.l 0 with
  | x0 =>
    try dsimp only
    exact zh [.loop (.exit 0) (sd50 e items)] (And.intro (po_lr (q := lr_r_Right_2 e items) (lp_r_Right_2 e items items.l 0 (List.drop_zero) (Nat.zero_le _) (by first | assumption | omega | (with_reducible exact z9) | (simp only [z8] at * <;> omega) | (simp only [z5, z6, z7, GS.some_l, List.length_set, List.length_append, List.length_cons, List.length_nil] at * <;> first | with_reducible assumption | omega) | (simp only [z5, z6, z7, GS.some_l, List.length_set, List.length_append, List.length_cons, List.length_nil, z8] at * <;> first | with_reducible assumption | omega) | (simp at * <;> omega))) h9) trivial) (by kernel_rfl)
  | x1 i2 x2 =>
    try dsimp only
    exact zh [.loop .ret (sd51 e items i2 x2)] (And.intro (po_lr (q := lr_r_Right_2 e items) (lp_r_Right_2 e items items.l 0 (List.drop_zero) (Nat.zero_le _) (by first | assumption | omega | (with_reducible exact z9) | (simp only [z8] at * <;> omega) | (simp only [z5, z6, z7, GS.some_l, List.length_set, List.length_append, List.length_cons, List.length_nil] at * <;> first | with_reducible assumption | omega) | (simp only [z5, z6, z7, GS.some_l, List.length_set, List.length_append, List.length_cons, List.length_nil, z8] at * <;> first | with_reducible assumption | omega) | (simp at * <;> omega))) h9) trivial) (by kernel_rfl)
  | x2 i2 x2 =>
    try dsimp only
    exact zh [.loop .ret (sd52 e items i2 x2)] (And.intro (po_lr (q := lr_r_Right_2 e items) (lp_r_Right_2 e items items.l 0 (List.drop_zero) (Nat.zero_le _) (by first | assumption | omega | (with_reducible exact z9) | (simp only [z8] at * <;> omega) | (simp only [z5, z6, z7, GS.some_l, List.length_set, List.length_append, List.length_cons, List.length_nil] at * <;> first | with_reducible assumption | omega) | (simp only [z5, z6, z7, GS.some_l, List.length_set, List.length_append, List.length_cons, List.length_nil, z8] at * <;> first | with_reducible assumption | omega) | (simp at * <;> omega))) h9) trivial) (by kernel_rfl)
  | x3 i2 x2 =>
    try dsimp only
    exact zh [.loop .ret (sd53 e items i2 x2)] (And.intro (po_lr (q := lr_r_Right_2 e items) (lp_r_Right_2 e items items.l 0 (List.drop_zero) (Nat.zero_le _) (by first | assumption | omega | (with_reducible exact z9) | (simp only [z8] at * <;> omega) | (simp only [z5, z6, z7, GS.some_l, List.length_set, List.length_append, List.length_cons, List.length_nil] at * <;> first | with_reducible assumption | omega) | (simp only [z5, z6, z7, GS.some_l, List.length_set, List.length_append, List.length_cons, List.length_nil, z8] at * <;> first | with_reducible assumption | omega) | (simp at * <;> omega))) h9) trivial) (by kernel_rfl)

theorem rright5 {e : S_Estate} {items : GS Int} (hL : items.l.length ≤ 9223372036854775807) : ∀ (l : List Int) (i : Nat), items.l.drop i = l → (r_Right_2 e items l i = .x0 ↔ inc (if i = 0 then -1 else items.at ((i : Int) - 1)) (e.items.l.length : Int) l)
  | [], i, _ => by simp [r_Right_2, inc]
  | x :: l, i, hd => by
    have hlt := zv hd
    have hx : items.at (i : Int) = x := at_of hd
    have ih := rright5 (e := e) (items := items) hL l (i + 1) (zA hd)
    rw [if_neg (by omega), show ((i + 1 : Nat) : Int) - 1 = (i : Int) by omega, hx] at ih
    unfold r_Right_2
    simp only [inc]
    cases h1 : decide (x < 0) with
    | true => have := of_decide_eq_true h1; simp only [cond_true]; exact ⟨fun h => (by cases h), fun h => by omega⟩
    | false =>
      have := of_decide_eq_false h1
      cases h2 : decide (x ≥ ((e.items.l.length : Nat) : Int)) with
      | true => have := of_decide_eq_true h2; simp only [cond_true, cond_false]; exact ⟨fun h => (by cases h), fun h => by omega⟩
      | false =>
        have := of_decide_eq_false h2
        simp only [cond_false]
        by_cases h0 : i = 0
        · subst h0
          have e0 : decide (((0 : Nat) : Int) > 0) = false := rfl
          rw [e0, if_pos rfl]
          simp only [cond_false, ih]
          exact ⟨fun h => ⟨by omega, by omega, by omega, h⟩, fun h => h.2.2.2⟩
        · rw [if_neg h0, decide_eq_true (by omega : ((i : Nat) : Int) > 0)]
          simp only [cond_true]
          rw [w64_eq (by omega) (by omega)]
          cases h2 : decide (items.at (((i : Nat) : Int) - 1) ≥ x) with
          | true => have := of_decide_eq_true h2; simp only [cond_true]; exact ⟨fun h => (by cases h), fun h => by omega⟩
          | false =>
            have := of_decide_eq_false h2
            simp only [cond_false, ih]
            exact ⟨fun h => ⟨by omega, by omega, by omega, h⟩, fun h => h.2.2.2⟩
theorem rright_iff {e : S_Estate} {items : GS Int} (hL : items.l.length ≤ 9223372036854775807) : r_Right e items = true ↔ inc (-1) (e.items.l.length : Int) items.l := by
  have k := rright5 (e := e) hL items.l 0 List.drop_zero
  rw [if_pos rfl] at k
  rw [← k]
  unfold r_Right
  cases r_Right_2 e items items.l 0 <;> simp
end Go.VS
/-
  Orders: gains; the width that is left; what is needed. (A text of this claim's own; nothing of it is trusted.)
-/
namespace Go.VS
set_option maxHeartbeats 0
theorem right_of {e : S_Estate} {items : GS Int} (hL : items.l.length ≤ 9223372036854775807) (h : V e) (hi : inc (-1) (e.items.l.length : Int) items.l) : zp e items = 0 := (right_iff hL).2 ⟨check_iff.2 h, hi⟩
theorem inc_short {e : S_Estate} {l : List Int} (h : V e) (hi : inc (-1) (e.items.l.length : Int) l) : l.length ≤ 12 := by
  have := h.n2
  by_cases hn : l = []
  · rw [hn]; simp
  · have := inc_len hi (by omega) hn
    omega
/-! ### gains -/
def gn (x : S_Item) : Int := max 0 (x.now.hi - x.now.lo - 2 * x.error)
theorem gain_eq {x : S_Item} (h : OkItem x) : zq x = gn x := by
  obtain ⟨a, b, c, d, e, f, g⟩ := h
  unfold zq gn
  rw [imax_eq, w64_eq (n := x.now.hi - x.now.lo) (by omega) (by omega), w64_eq (n := 2 * x.error) (by omega) (by omega), w64_eq (by omega) (by omega)]
theorem gn_bd {x : S_Item} (h : OkItem x) : 0 ≤ gn x ∧ gn x ≤ x.now.hi - x.now.lo := by
  obtain ⟨a, b, c, d, e, f, g⟩ := h
  unfold gn
  omega
/-- What items gain. -/
def gs (e : S_Estate) (l : List Int) : List Int := l.map (fun i => gn (e.items.at i))
theorem gains_eq {e : S_Estate} (h : V e) {items : GS Int} (hi : ∀ i ∈ items.l, 0 ≤ i ∧ i < (e.items.l.length : Int)) : (zg e items).l = gs e items.l := by
  rw [(gains_l e items).1]
  refine List.map_congr_left fun i hm => ?_
  exact gain_eq (h.it _ (at_mem (hi i hm).1 (hi i hm).2))
theorem tot_app (a b : List Int) : tot (a ++ b) = tot a + tot b := by
  induction a with
  | nil => simp [tot]
  | cons x a ih => simp only [List.cons_append, tot, ih]; omega
theorem total3_eq : ∀ (l : List Int) (n : Int), (∀ x ∈ l, 0 ≤ x ∧ x ≤ 1073741824) → 0 ≤ n → n + 1073741824 * (l.length : Int) ≤ 4611686018427387904 → orders_total_3 l n = .x0 (n + tot l)
  | [], n, _, _, _ => by simp [orders_total_3, tot]
  | x :: l, n, h, h0, h1 => by
    have hx := h x List.mem_cons_self
    simp only [List.length_cons] at h1
    unfold orders_total_3
    rw [w64_eq (by omega) (by omega), total3_eq l _ (fun y hy => h y (List.mem_cons_of_mem _ hy)) (by omega) (by omega)]
    simp only [tot]
    congr 1
    omega
theorem total_eq {s : GS Int} (h : ∀ x ∈ s.l, 0 ≤ x ∧ x ≤ 1073741824) (hn : s.l.length ≤ 1000) : zj s = tot s.l := by
  unfold zj
  rw [total3_eq s.l 0 h (by omega) (by omega)]
  simp
theorem gs_bd {e : S_Estate} (h : V e) {l : List Int} (hi : ∀ i ∈ l, 0 ≤ i ∧ i < (e.items.l.length : Int)) : ∀ x ∈ gs e l, 0 ≤ x ∧ x ≤ 1073741824 := by
  intro x hx
  obtain ⟨i, hm, rfl⟩ := List.mem_map.1 hx
  have hk := h.it _ (at_mem (hi i hm).1 (hi i hm).2)
  have := gn_bd hk
  have := hk.2.2.1; have := hk.1
  omega
def Gl (e : S_Estate) : List Int := e.items.l.map gn
theorem tot_nonneg : ∀ {l : List Int}, (∀ x ∈ l, 0 ≤ x) → 0 ≤ tot l
  | [], _ => Int.le_refl _
  | x :: l, h => by
    have := h x List.mem_cons_self
    have := tot_nonneg (l := l) (fun y hy => h y (List.mem_cons_of_mem _ hy))
    simp only [tot]; omega
theorem tot_drop {l : List Int} (h : ∀ x ∈ l, 0 ≤ x) {i j : Nat} (hij : i ≤ j) : tot (l.drop j) ≤ tot (l.drop i) := by
  have e : l.drop j = (l.drop i).drop (j - i) := by rw [List.drop_drop]; congr 1; omega
  rw [e]
  have := tot_app ((l.drop i).take (j - i)) ((l.drop i).drop (j - i))
  rw [List.take_append_drop] at this
  have : 0 ≤ tot ((l.drop i).take (j - i)) := tot_nonneg fun x hx => h x (List.mem_of_mem_drop (List.mem_of_mem_take hx))
  omega
theorem Gl_nonneg {e : S_Estate} (h : V e) : ∀ x ∈ Gl e, 0 ≤ x := by
  intro x hx
  obtain ⟨y, hy, rfl⟩ := List.mem_map.1 hx
  exact (gn_bd (h.it y hy)).1
theorem gs_le {e : S_Estate} (h : V e) : ∀ {p : Int} {l : List Int}, -1 ≤ p → inc p (e.items.l.length : Int) l → tot (gs e l) ≤ tot ((Gl e).drop (p + 1).toNat)
  | p, [], hp, _ => tot_nonneg fun x hx => Gl_nonneg h x (List.mem_of_mem_drop hx)
  | p, x :: l, hp, hi => by
    obtain ⟨h1, h2, h3, h4⟩ := hi
    have ih := gs_le h (p := x) (by omega) h4
    have hlt : x.toNat < (Gl e).length := by unfold Gl; rw [List.length_map]; omega
    have hd : (Gl e).drop x.toNat = (Gl e)[x.toNat] :: (Gl e).drop (x.toNat + 1) := List.drop_eq_getElem_cons hlt
    have hg : (Gl e)[x.toNat] = gn (e.items.at x) := by
      have hlt' : x.toNat < e.items.l.length := by omega
      simp only [Gl, List.getElem_map, GS.at, List.getD_eq_getElem?_getD, List.getElem?_eq_getElem hlt']
      rfl
    have hm := tot_drop (Gl_nonneg h) (i := (p + 1).toNat) (j := x.toNat) (by omega)
    rw [hd, hg] at hm
    rw [show (x + 1).toNat = x.toNat + 1 by omega] at ih
    simp only [gs, List.map_cons, tot] at *
    omega
theorem Gl_tot {e : S_Estate} (h : V e) : tot (Gl e) ≤ sHi e.items.l - sLo e.items.l := by
  have key : ∀ l : List S_Item, (∀ x ∈ l, OkItem x) → tot (l.map gn) ≤ sHi l - sLo l := by
    intro l
    induction l with
    | nil => intro _; simp [tot, sHi, sLo]
    | cons x l ih =>
      intro hl
      have := ih fun y hy => hl y (List.mem_cons_of_mem _ hy)
      have := gn_bd (hl x List.mem_cons_self)
      simp only [List.map_cons, tot, sHi, sLo]
      omega
  exact key _ h.it
theorem gs_range {e : S_Estate} (h : V e) {l : List Int} (hi : inc (-1) (e.items.l.length : Int) l) : 0 ≤ tot (gs e l) ∧ tot (gs e l) ≤ sHi e.items.l - sLo e.items.l := by
  have h1 := gs_le h (by omega) hi
  have h2 := Gl_tot h
  have h3 := gs_bd h (inc_mem hi)
  simp at h1
  exact ⟨tot_nonneg fun x hx => (h3 x hx).1, by omega⟩
/-! ### the width that is left behind a gain -/
def wn (e : S_Estate) (g : Int) : S_window := ⟨⟨sLo e.items.l, sHi e.items.l - g⟩, g, e.whole⟩
def Wg (e : S_Estate) (g : Int) : Int := wf (wn e g) (wpos (wn e g))
theorem wn_ok {e : S_Estate} (h : V e) {g : Int} (h0 : 0 ≤ g) (h1 : g ≤ sHi e.items.l - sLo e.items.l) : Wk (wn e g) := by
  have hb := sums_bd h.sp
  have := h.n2
  have := h.lo; have := h.hi
  refine ⟨hb.1, ?_, ?_, h0, h.w0, h.w1, h.w2, h.lo, ?_⟩ <;> simp only [wn] <;> omega
theorem windowOf_eq {e : S_Estate} (h : V e) {g : Int} (h0 : 0 ≤ g) (h1 : g ≤ sHi e.items.l - sLo e.items.l) : ze e g = wn e g := by
  have hb := sums_bd h.sp
  have := h.n2
  unfold ze wn
  rw [all_eq h.sp h.n2]
  simp only []
  rw [w64_eq (by omega) (by omega)]
theorem wide_eq {e : S_Estate} (h : V e) {g : Int} (h0 : 0 ≤ g) (h1 : g ≤ sHi e.items.l - sLo e.items.l) : zz (ze e g) = (Wg e g, wpos (wn e g)) := by
  rw [windowOf_eq h h0 h1, widest_eq (wn_ok h h0 h1)]; rfl
theorem Wg_eq {e : S_Estate} (h : V e) {g : Int} (h0 : 0 ≤ g) (h2 : g ≤ sHi e.items.l - sLo e.items.l) : Wg e g = min (sHi e.items.l - sLo e.items.l - g) (hiS e - loS e) := by
  have := h.lo; have := h.hi; have := h.w1
  unfold Wg wf wpos wlo whi wn hiS loS
  simp only []
  omega
theorem Wg_mono {e : S_Estate} (h : V e) {g g' : Int} (h0 : 0 ≤ g) (h1 : g ≤ g') (h2 : g' ≤ sHi e.items.l - sLo e.items.l) : Wg e g' ≤ Wg e g := by
  rw [Wg_eq h (by omega) h2, Wg_eq h h0 (by omega)]
  omega
theorem Wg_nonneg {e : S_Estate} (h : V e) {g : Int} (h0 : 0 ≤ g) (h2 : g ≤ sHi e.items.l - sLo e.items.l) : 0 ≤ Wg e g := by
  have := loS_hiS h
  rw [Wg_eq h h0 h2]
  omega
theorem Wg_top {e : S_Estate} (h : V e) : Wg e (sHi e.items.l - sLo e.items.l) ≤ 0 := by
  have hb := sums_bd h.sp
  rw [Wg_eq h (by omega) (by omega)]
  omega
theorem gtot_eq {e : S_Estate} (h : V e) {items : GS Int} (hi : inc (-1) (e.items.l.length : Int) items.l) : zj (zg e items) = tot (gs e items.l) := by
  have := inc_short h hi
  rw [total_eq (by rw [gains_eq h (inc_mem hi)]; exact gs_bd h (inc_mem hi)) (by rw [z6]; omega), gains_eq h (inc_mem hi)]
theorem worst_eq {e : S_Estate} (h : V e) {items : GS Int} (hL : items.l.length ≤ 9223372036854775807) (hi : inc (-1) (e.items.l.length : Int) items.l) : orders_Worst e items = (Wg e (tot (gs e items.l)), 0) := by
  have hr := gs_range h hi
  unfold orders_Worst orders_worst
  rw [right_of hL h hi, gtot_eq h hi, wide_eq h hr.1 hr.2]
  rfl
/-! ### all items -/
theorem upto_inc (n : Nat) : inc (-1) (n : Int) (upto (n : Int)) := by
  have key : ∀ (k i : Nat), i + k = n → inc ((i : Int) - 1) (n : Int) ((List.range' i k).map (fun i => ((i : Nat) : Int))) := by
    intro k
    induction k with
    | zero => intro i _; exact trivial
    | succ k ih =>
      intro i hi
      rw [List.range'_succ]
      simp only [List.map_cons, inc]
      refine ⟨by omega, by omega, by omega, ?_⟩
      have := ih (i + 1) (by omega)
      rwa [show ((i + 1 : Nat) : Int) - 1 = (i : Int) by omega] at this
  unfold upto
  rw [Int.toNat_natCast, List.range_eq_range']
  exact key n 0 (by omega)
theorem gs_upto (e : S_Estate) : gs e (upto (e.items.l.length : Int)) = Gl e := by
  unfold gs Gl upto
  rw [Int.toNat_natCast, List.map_map]
  refine List.ext_getElem (by simp) fun i h1 h2 => ?_
  have hlt : i < e.items.l.length := by simpa using h2
  simp only [List.getElem_map, List.getElem_range, Function.comp, GS.at, Int.toNat_natCast, List.getD_eq_getElem?_getD, List.getElem?_eq_getElem hlt]
  rfl
theorem gainsF_eq {e : S_Estate} (h : V e) : (orders_Gains e).2 = 0 ∧ (orders_Gains e).1.l = Gl e := by
  unfold orders_Gains
  rw [check_iff.2 h]
  refine ⟨rfl, ?_⟩
  show (zg e (zB ((e.items.l.length : Nat) : Int))).l = _
  have e1 : (zB ((e.items.l.length : Nat) : Int)).l = upto (e.items.l.length : Int) := (numbers_l _).1
  rw [gains_eq h (by rw [e1]; exact upto_mem), e1, gs_upto]
theorem gall_eq {e : S_Estate} (h : V e) : zj (zg e (zB ((e.items.l.length : Nat) : Int))) = tot (Gl e) := by
  have e1 : (zB ((e.items.l.length : Nat) : Int)).l = upto (e.items.l.length : Int) := (numbers_l _).1
  rw [gtot_eq h (by rw [e1]; exact upto_inc _), e1, gs_upto]
/-! ### what is needed -/
theorem need8 {e : S_Estate} (h : V e) {width : Int} : ∀ (n : Nat) (lo hi : Int), 0 ≤ lo → lo ≤ hi → hi ≤ sHi e.items.l - sLo e.items.l → (hi - lo).toNat < n → (∀ g, 0 ≤ g → g < lo → Wg e g > width) → (∀ g, hi ≤ g → g ≤ sHi e.items.l - sLo e.items.l → Wg e g ≤ width) →
    ∃ m m', orders_Need_8 e width n lo hi = .x0 m m' ∧ 0 ≤ m ∧ m ≤ sHi e.items.l - sLo e.items.l ∧ ∀ g, 0 ≤ g → g ≤ sHi e.items.l - sLo e.items.l → (Wg e g ≤ width ↔ m ≤ g)
  | 0, _, _, _, _, _, hh, _, _ => by omega
  | n + 1, lo, hi, h0, h1, h2, hn, hA, hB => by
    have hb := sums_bd h.sp
    have hn2 := h.n2
    unfold orders_Need_8
    cases h3 : decide (lo < hi) with
    | false =>
      have := of_decide_eq_false h3
      refine ⟨lo, hi, rfl, h0, by omega, fun g g0 g1 => ⟨fun hw => ?_, fun hl => hB g (by omega) g1⟩⟩
      by_cases hlt : g < lo
      · have := hA g g0 hlt; omega
      · omega
    | true =>
      have h3' := of_decide_eq_true h3
      simp only [cond_true]
      have e1 : w64 (lo + hi) = lo + hi := w64_eq (by omega) (by omega)
      have e0 : (lo + hi).tdiv 2 = (lo + hi) / 2 := Int.tdiv_eq_ediv_of_nonneg (by omega)
      rw [e1, e0, w64_eq (n := (lo + hi) / 2) (by omega) (by omega), w64_eq (n := (lo + hi) / 2 + 1) (by omega) (by omega), wide_eq h (by omega) (by omega)]
      simp only []
      cases h4 : decide (Wg e ((lo + hi) / 2) ≤ width) with
      | true =>
        have h4' := of_decide_eq_true h4
        exact need8 h n lo _ h0 (by omega) (by omega) (by omega) hA (fun g g0 g1 => by
          have := Wg_mono h (g := (lo + hi) / 2) (by omega) g0 g1
          omega)
      | false =>
        have h4' := of_decide_eq_false h4
        exact need8 h n _ hi (by omega) (by omega) h2 (by omega) (fun g g0 g1 => by
          have := Wg_mono h (g := g) g0 (by omega : g ≤ (lo + hi) / 2) (by omega)
          omega) hB
theorem need_eq {e : S_Estate} (h : V e) {width : Int} (hw : 0 ≤ width) : ∃ m, orders_Need e width = (m, decide (tot (Gl e) ≥ m), 0) ∧ 0 ≤ m ∧ ∀ g, 0 ≤ g → g ≤ sHi e.items.l - sLo e.items.l → (Wg e g ≤ width ↔ m ≤ g) := by
  have hb := sums_bd h.sp
  have hn := h.n2
  unfold orders_Need
  rw [check_iff.2 h, all_eq h.sp h.n2, decide_eq_false (by omega : ¬ width < 0), gall_eq h]
  simp only [bne_self_eq_false, cond_false]
  rw [w64_eq (by omega) (by omega)]
  obtain ⟨m, m', h1, h2, h3, h4⟩ := need8 h (width := width) ((sHi e.items.l - sLo e.items.l - 0).toNat + 1) 0 (sHi e.items.l - sLo e.items.l) (by omega) (by omega) (by omega) (by omega) (fun g g0 g1 => by omega) (fun g g0 g1 => by
    have := Wg_top h
    have : g = sHi e.items.l - sLo e.items.l := by omega
    subst this; omega)
  refine ⟨m, ?_, h2, h4⟩
  rw [h1]
  simp only []
  cases decide (tot (Gl e) ≥ m) <;> rfl
/-! ### is it among them -/
theorem inc_lt : ∀ {p n : Int} {l : List Int}, inc p n l → ∀ x ∈ l, p < x
  | _, _, [], _, x, hx => by cases hx
  | p, n, y :: l, h, x, hx => by
    rcases List.mem_cons.1 hx with rfl | hx
    · exact h.1
    · have := inc_lt h.2.2.2 x hx; have := h.1; omega
end Go.VS
/-
  Orders: estates closed; areas at the ends of what can be. (A text of this claim's own; nothing of it is trusted.)
-/
namespace Go.VS
def pt (e : S_Estate) (x : S_Item) : S_Item := ⟨⟨loP e x, hiP e x⟩, x.cost, x.error⟩
def clo (e : S_Estate) : S_Estate := ⟨GS.some (e.items.l.map (pt e)), ⟨loS e, hiS e⟩⟩
theorem clo_items (e : S_Estate) : (clo e).items.l = e.items.l.map (pt e) := rfl
theorem parts_in {e : S_Estate} : ∀ (l : List S_Item) (a : List Int) (pl ph pa : Int), In l a → pl ≤ pa → pa ≤ ph → pl + sLo l = sLo e.items.l → ph + sHi l = sHi e.items.l → e.whole.lo ≤ pa + tot a → pa + tot a ≤ e.whole.hi → In (l.map (pt e)) a
  | [], [], _, _, _, _, _, _, _, _, _, _ => trivial
  | [], _ :: _, _, _, _, h, _, _, _, _, _, _ => h.elim
  | _ :: _, [], _, _, _, h, _, _, _, _, _, _ => h.elim
  | x :: l, b :: a, pl, ph, pa, h, h1, h2, h3, h4, h5, h6 => by
    have hb := h.2.bd
    have hx := h.1
    simp only [sLo, sHi, tot] at h3 h4 h5 h6
    simp only [List.map_cons, In, pt, loP, hiP]
    exact ⟨⟨by omega, by omega⟩, parts_in l a (pl + x.now.lo) (ph + x.now.hi) (pa + b) h.2 (by omega) (by omega) (by omega) (by omega) (by omega) (by omega)⟩
theorem allowed_in {e : S_Estate} {a : List Int} (h : Allowed e a) : In (clo e).items.l a ∧ loS e ≤ tot a ∧ tot a ≤ hiS e := by
  have hb := h.1.bd
  have := h.2
  exact ⟨parts_in e.items.l a 0 0 0 h.1 (by omega) (by omega) (by omega) (by omega) (by omega) (by omega), by unfold loS; omega, by unfold hiS; omega⟩
theorem in_wide {e : S_Estate} : ∀ {l : List S_Item} {a : List Int}, In (l.map (pt e)) a → In l a
  | [], [], _ => trivial
  | [], _ :: _, h => h.elim
  | _ :: _, [], h => h.elim
  | x :: l, b :: a, h => by
    have h1 := h.1
    simp only [pt, loP, hiP] at h1
    exact ⟨by omega, in_wide h.2⟩
theorem fill_allowed {e : S_Estate} (h : V e) {s : Int} (h0 : loS e ≤ s) (h1 : s ≤ hiS e) : Allowed e (fillL e.items.l (s - sLo e.items.l)) ∧ tot (fillL e.items.l (s - sLo e.items.l)) = s := by
  unfold loS at h0
  unfold hiS at h1
  obtain ⟨k1, k2⟩ := fillL_ok h.sp (r := s - sLo e.items.l) (by omega) (by omega)
  have : tot (fillL e.items.l (s - sLo e.items.l)) = s := by rw [k2]; omega
  exact ⟨⟨k1, by omega, by omega⟩, this⟩
theorem in_all {l : List S_Item} : ∀ {a : List Int}, In l a → ∀ x ∈ l, x.now.lo ≤ x.now.hi := by
  induction l with
  | nil => intro a _ x hx; cases hx
  | cons y l ih =>
    intro a h x hx
    cases a with
    | nil => exact h.elim
    | cons b a =>
      rcases List.mem_cons.1 hx with rfl | hx
      · have := h.1; omega
      · exact ih h.2 x hx
theorem clo_V {e : S_Estate} (h : V e) : V (clo e) := by
  obtain ⟨k1, k2⟩ := fill_allowed h (Int.le_refl _) (loS_hiS h)
  obtain ⟨k3, k4, k5⟩ := allowed_in k1
  have k6 := k3.bd
  have hb := sums_bd h.sp
  have := h.lo; have := h.hi; have := h.w0; have := h.w1; have := h.w2
  refine ⟨by rw [clo_items, List.length_map]; exact h.n1, by rw [clo_items, List.length_map]; exact h.n2, ?_, loS_hiS h, ?_, ?_, ?_, ?_⟩
  · show 0 ≤ loS e
    unfold loS; omega
  · show hiS e ≤ _
    unfold hiS; omega
  · intro x hx
    have hm := in_all k3 x hx
    rw [clo_items] at hx
    obtain ⟨y, hy, rfl⟩ := List.mem_map.1 hx
    obtain ⟨a1, a2, a3, a4, a5, a6, a7⟩ := h.it y hy
    simp only [pt, loP, hiP] at hm
    exact ⟨by simp only [pt, loP]; omega, hm, by simp only [pt, hiP]; omega, a4, a5, a6, a7⟩
  · show sLo (clo e).items.l ≤ hiS e
    omega
  · show loS e ≤ sHi (clo e).items.l
    omega
/-- One item at a number. -/
def put (l : List S_Item) (i : Nat) (y : Int) : List S_Item := l.set i ⟨⟨y, y⟩, (l.getD i default).cost, (l.getD i default).error⟩
theorem put_sums : ∀ {l : List S_Item} {i : Nat} {x z : S_Item}, l[i]? = some x → sLo (l.set i z) = sLo l - x.now.lo + z.now.lo ∧ sHi (l.set i z) = sHi l - x.now.hi + z.now.hi
  | [], i, x, z, h => by simp at h
  | w :: l, 0, x, z, h => by simp at h; subst h; simp only [List.set_cons_zero, sLo, sHi]; omega
  | w :: l, i + 1, x, z, h => by
    have := put_sums (z := z) (by simpa using h : l[i]? = some x)
    simp only [List.set_cons_succ, sLo, sHi]
    omega
theorem in_put : ∀ {l : List S_Item} {i : Nat} {x z : S_Item} {a : List Int} {y : Int}, l[i]? = some x → z.now.lo = y → z.now.hi = y → x.now.lo ≤ y → y ≤ x.now.hi → In (l.set i z) a → In l a ∧ a[i]? = some y
  | [], i, x, z, a, y, h, _, _, _, _, _ => by simp at h
  | w :: l, 0, x, z, [], y, h, _, _, _, _, hi => hi.elim
  | w :: l, 0, x, z, b :: a, y, h, h1, h2, h3, h4, hi => by
    simp at h; subst h
    simp only [List.set_cons_zero, In] at hi
    obtain ⟨h5, h6⟩ := hi
    exact ⟨⟨by omega, h6⟩, by simp; omega⟩
  | w :: l, i + 1, x, z, [], y, h, _, _, _, _, hi => hi.elim
  | w :: l, i + 1, x, z, b :: a, y, h, h1, h2, h3, h4, hi => by
    simp only [List.set_cons_succ, In] at hi
    have := in_put (by simpa using h : l[i]? = some x) h1 h2 h3 h4 hi.2
    exact ⟨⟨hi.1, this.1⟩, by simpa using this.2⟩
theorem put_spans {l : List S_Item} {i : Nat} {y : Int} (h : OkSpans l) (h0 : 0 ≤ y) (h1 : y ≤ 1073741824) : OkSpans (put l i y) := by
  intro x hx
  rcases List.mem_or_eq_of_mem_set hx with hx | rfl
  · exact h x hx
  · exact ⟨h0, Int.le_refl _, h1⟩
/-- The sum that is spread over the items, one being at a number. -/
def clampS (e : S_Estate) (l : List S_Item) : Int := min (max (sLo l) e.whole.lo) (sHi l)
theorem put_allowed {e : S_Estate} (h : V e) {i : Nat} {x : S_Item} (hx : e.items.l[i]? = some x) {y : Int} (h0 : loP e x ≤ y) (h1 : y ≤ hiP e x) :
    Allowed e (fillL (put e.items.l i y) (clampS e (put e.items.l i y) - sLo (put e.items.l i y))) ∧ (fillL (put e.items.l i y) (clampS e (put e.items.l i y) - sLo (put e.items.l i y)))[i]? = some y := by
  have hm : x ∈ e.items.l := List.mem_of_getElem? hx
  have hs := h.sp x hm
  unfold loP at h0
  unfold hiP at h1
  have ho := put_spans (i := i) h.sp (y := y) (by omega) (by omega)
  obtain ⟨e1, e2⟩ := put_sums (z := ⟨⟨y, y⟩, (e.items.l.getD i default).cost, (e.items.l.getD i default).error⟩) hx
  have hb := sums_bd ho
  have e1' : sLo (put e.items.l i y) = sLo e.items.l - x.now.lo + y := e1
  have e2' : sHi (put e.items.l i y) = sHi e.items.l - x.now.hi + y := e2
  have hw := h.w1
  obtain ⟨k1, k2⟩ := fillL_ok ho (r := clampS e (put e.items.l i y) - sLo (put e.items.l i y)) (by unfold clampS; omega) (by unfold clampS; omega)
  obtain ⟨k3, k4⟩ := in_put (y := y) hx rfl rfl (by omega) (by omega) k1
  refine ⟨⟨k3, ?_, ?_⟩, k4⟩
  · rw [k2]; unfold clampS; omega
  · rw [k2]; unfold clampS; omega
theorem in_at : ∀ {l : List S_Item} {a : List Int} {i : Nat} {x : S_Item} {y : Int}, In l a → l[i]? = some x → a[i]? = some y → (x.now.lo ≤ y ∧ y ≤ x.now.hi) ∧ tot a - y ≤ sHi l - x.now.hi ∧ sLo l - x.now.lo ≤ tot a - y
  | [], _, _, _, _, _, h, _ => by simp at h
  | _ :: _, [], _, _, _, h, _, _ => h.elim
  | w :: l, b :: a, 0, x, y, h, h1, h2 => by
    simp at h1 h2; subst h1 h2
    have hb := h.2.bd
    simp only [sHi, sLo, tot]
    exact ⟨h.1, by omega, by omega⟩
  | w :: l, b :: a, i + 1, x, y, h, h1, h2 => by
    have k := in_at h.2 (by simpa using h1 : l[i]? = some x) (by simpa using h2 : a[i]? = some y)
    have := h.1
    simp only [sHi, sLo, tot]
    exact ⟨k.1, by omega, by omega⟩
theorem pt_le {e : S_Estate} (h : V e) {x : S_Item} (hx : x ∈ e.items.l) : loP e x ≤ hiP e x := by
  obtain ⟨k1, k2⟩ := fill_allowed h (Int.le_refl _) (loS_hiS h)
  have := in_all (allowed_in k1).1 (pt e x) (by rw [clo_items]; exact List.mem_map.2 ⟨x, hx, rfl⟩)
  exact this
/-- Closed again it is the same. -/
theorem clo_clo {e : S_Estate} (h : V e) : clo (clo e) = clo e := by
  have hV := clo_V h
  have e1 : loS (clo e) = loS e := by
    obtain ⟨k1, k2⟩ := fill_allowed h (Int.le_refl _) (loS_hiS h)
    have := (allowed_in k1).1.bd
    show max (sLo (clo e).items.l) (loS e) = loS e
    omega
  have e2 : hiS (clo e) = hiS e := by
    obtain ⟨k1, k2⟩ := fill_allowed h (loS_hiS h) (Int.le_refl _)
    have := (allowed_in k1).1.bd
    show min (sHi (clo e).items.l) (hiS e) = hiS e
    omega
  have e3 : ∀ x ∈ e.items.l, pt (clo e) (pt e x) = pt e x := by
    intro x hx
    obtain ⟨i, hi⟩ := List.mem_iff_getElem?.1 hx
    have hi' : (clo e).items.l[i]? = some (pt e x) := by rw [clo_items, List.getElem?_map, hi]; rfl
    have hle := pt_le h hx
    have a1 : loP (clo e) (pt e x) = loP e x := by
      obtain ⟨k1, k2⟩ := put_allowed h hi (Int.le_refl _) hle
      have k3 := allowed_in k1
      have k4 := in_at k3.1 hi' k2
      show max (loP e x) (loS e - (sHi (clo e).items.l - hiP e x)) = loP e x
      simp only [pt] at k4
      omega
    have a2 : hiP (clo e) (pt e x) = hiP e x := by
      obtain ⟨k1, k2⟩ := put_allowed h hi hle (Int.le_refl _)
      have k3 := allowed_in k1
      have k4 := in_at k3.1 hi' k2
      show min (hiP e x) (hiS e - (sLo (clo e).items.l - loP e x)) = hiP e x
      simp only [pt] at k4
      omega
    show (⟨⟨loP (clo e) (pt e x), hiP (clo e) (pt e x)⟩, x.cost, x.error⟩ : S_Item) = _
    rw [a1, a2]; rfl
  show (⟨GS.some ((e.items.l.map (pt e)).map (pt (clo e))), ⟨loS (clo e), hiS (clo e)⟩⟩ : S_Estate) = ⟨GS.some (e.items.l.map (pt e)), ⟨loS e, hiS e⟩⟩
  rw [e1, e2, List.map_map]
  congr 2
  exact List.map_congr_left fun x hx => e3 x hx
theorem closed6_eq {e : S_Estate} (h : V e) : ∀ (l : List S_Item) (i : Nat) (v : List S_Item), e.items.l.drop i = l → v.length = e.items.l.length → v.drop i = l → zX e l i v = .x0 (v.take i ++ l.map (pt e))
  | [], i, v, hd, hl, hv => by
    have := List.drop_eq_nil_iff.1 hv
    simp [zX, List.take_of_length_le this]
  | x :: l, i, v, hd, hl, hv => by
    have hlt : i < v.length := by
      rcases Nat.lt_or_ge i v.length with hh | hh
      · exact hh
      · rw [List.drop_eq_nil_of_le hh] at hv; cases hv
    have hx : v[i]? = some x := by rw [← List.head?_drop, hv]; rfl
    have hg : v.getD i default = x := by rw [List.getD_eq_getElem?_getD, hx]; rfl
    unfold zX
    rw [part_eq h (at_of hd) (mem_drop hd), hg, closed6_eq h l (i + 1) _ (zA hd) (by rw [List.length_set]; exact hl) (by rw [List.drop_set_of_lt (by omega)]; exact zA hv)]
    rw [List.take_set, List.take_add_one, hx]
    have : (List.take i v ++ (some x).toList).set i (⟨⟨loP e x, hiP e x⟩, x.cost, x.error⟩ : S_Item) = List.take i v ++ [pt e x] := by
      rw [List.set_append_right _ _ (by simp; omega)]
      have : (i - (List.take i v).length) = 0 := by simp; omega
      rw [this]; rfl
    rw [this]
    simp
theorem closed_eq {e : S_Estate} (h : V e) : zG e = (clo e, 0) := by
  unfold zG
  rw [sum_eq h, closed6_eq h e.items.l 0 e.items.l List.drop_zero rfl List.drop_zero]
  rfl
theorem same4_self {b : S_Estate} : ∀ (l : List S_Item) (i : Nat), b.items.l.drop i = l → r_Same_4 b l i = .x0
  | [], _, _ => rfl
  | x :: l, i, hd => by
    unfold r_Same_4
    rw [at_of hd]
    simp only [beq_self_eq_true, Bool.and_self, Bool.not_true, cond_false]
    exact same4_self l (i + 1) (zA hd)
theorem same_self (b : S_Estate) : r_Same b b = true := by
  unfold r_Same
  rw [same4_self b.items.l 0 List.drop_zero]
  simp
theorem areas_clo {e : S_Estate} (h : V e) (a : GS Int) : zO e a = zO (clo e) a := by
  have h1 := areas_iff h a
  have h2 := areas_iff (clo_V h) a
  have key : Allowed e a.l ↔ Allowed (clo e) a.l := by
    constructor
    · exact fun k => allowed_in k
    · intro k
      refine ⟨in_wide (by have := k.1; rwa [clo_items] at this), ?_, ?_⟩
      · have : loS e ≤ tot a.l := k.2.1
        unfold loS at this; omega
      · have : tot a.l ≤ hiS e := k.2.2
        unfold hiS at this; omega
  rcases h1.2 with k | k <;> rcases h2.2 with k' | k' <;> rw [k, k']
  · have := h2.1.2 (key.1 (h1.1.1 k)); omega
  · have := h1.1.2 (key.2 (h2.1.1 k')); omega
end Go.VS
