/- Nothing of a statement is proved in this text alone: it is part 4 of the proof's own tools, an evaluator of the code over deep values, its soundness, and what it makes of this seat's functions. Conditions: none beyond the statement's own. -/
import Derived.Test.YtnifoeahomkdlaaVsOSb3
set_option linter.unusedSimpArgs false
set_option linter.unusedVariables false
namespace Go.VS
open Go Go.Proofs
set_option maxHeartbeats 0
set_option linter.unusedSimpArgs false
set_option linter.unusedVariables false
noncomputable def lp66_3 : Code := subC [1, 1, 0, 1, 0, 0] (bodyC Try.f66)

def sd77 (e : S_Estate) (items : GS Int) (i3 : Nat) (x3 : Int) (va3_0 : List Int) : St := ⟨25, [(10, I ((i3 + 1 : Nat) : Int)), (23, I ((i3 + 1 : Nat) : Int)), (5, .lsl 3 0 ((va3_0 ++ [(zr (GS.at e.items x3))]).length) 1 none), (22, .lsl 3 0 ((va3_0 ++ [(zr (GS.at e.items x3))]).length) 1 none), (21, .lsl 2 0 1 1 (some 1)), (20, I (zr (GS.at e.items x3))), (19, .agg [I ((GS.at e.items x3).now.lo), I ((GS.at e.items x3).now.hi), I ((GS.at e.items x3).cost), I ((GS.at e.items x3).error)]), (18, .ptr (.agg [I ((GS.at e.items x3).now.lo), I ((GS.at e.items x3).now.hi), I ((GS.at e.items x3).cost), I ((GS.at e.items x3).error)])), (17, I x3), (16, .sl e.items.nl (e.items.l.map S_Item.D) (zsl e.items.nl 4) none), (15, .lref 0 0 3 0), (14, .lsl 1 0 va3_0.length 1 none), (7, I x3), (13, I x3), (12, .ptr (I x3)), (11, B true), (2, .lref 0 0 3 0), (5, .lsl 1 0 va3_0.length 1 none), (8, .sl items.nl (items.l.map I) (zsl items.nl 1) none), (9, I ((items.l.length : Nat) : Int)), (10, I ((i3 : Nat) : Int))], [(0, ⟨[.agg [.sl e.items.nl (e.items.l.map S_Item.D) (zsl e.items.nl 4) none, I e.whole.lo, I e.whole.hi]], 3, false⟩), (2, ⟨[I (zr (GS.at e.items x3))], 1, false⟩), (3, ⟨(va3_0 ++ [(zr (GS.at e.items x3))]).map I, 1, false⟩)], 4, 0⟩

inductive LR_orders_gains_3 where
  | x0 (va3_0 : List Int)
  | x1
instance : Inhabited LR_orders_gains_3 := ⟨.x0 default⟩
def orders_gains_3a (e : S_Estate) : List Int → (List Int) → LR_orders_gains_3
  | [], va3_0 => .x0 va3_0
  | x3 :: rest3, va3_0 =>
    orders_gains_3a e rest3 (va3_0 ++ [(zr (GS.at e.items x3))])
def orders_gains_3 (e : S_Estate) : List Int → LR_orders_gains_3
  | [] => .x1
  | x3 :: rest3 =>
    orders_gains_3a e rest3 [(zr (GS.at e.items x3))]
def lr_orders_gains_3 (e : S_Estate) (items : GS Int) : LR_orders_gains_3 → Exit × St
  | .x0 va3_0 => ((.exit 0), ⟨25, [(11, B false), (2, .lref 0 0 3 0), (5, .lsl 1 0 va3_0.length 1 none), (8, .sl items.nl (items.l.map I) (zsl items.nl 1) none), (9, I ((items.l.length : Nat) : Int)), (10, I ((items.l.length : Nat) : Int))], [(0, ⟨[.agg [.sl e.items.nl (e.items.l.map S_Item.D) (zsl e.items.nl 4) none, I e.whole.lo, I e.whole.hi]], 3, false⟩), (1, ⟨va3_0.map I, 1, false⟩)], 2, 0⟩)
  | .x1 => ((.exit 0), ⟨25, [(11, B false), (2, .lref 0 0 3 0), (5, .sl true [] 0 none), (8, .sl items.nl (items.l.map I) (zsl items.nl 1) none), (9, I ((items.l.length : Nat) : Int)), (10, I ((items.l.length : Nat) : Int))], [(0, ⟨[.agg [.sl e.items.nl (e.items.l.map S_Item.D) (zsl e.items.nl 4) none, I e.whole.lo, I e.whole.hi]], 3, false⟩)], 1, 0⟩)
def iv_orders_gains_3 (e : S_Estate) (items : GS Int) : LR_orders_gains_3 → Prop
  | .x0 va3_0 => (va3_0.length ≤ items.l.length)
  | .x1 => True
theorem lp_orders_gains_3a (e : S_Estate) (items : GS Int) : ∀ (rest3 : List Int) (i3 : Nat) (va3_0 : List Int) (hd3 : items.l.drop i3 = rest3) (hi3 : i3 ≤ items.l.length) (hall : ∀ i ∈ items.l, 0 ≤ i ∧ i < ((e.items.l.length : Nat) : Int)) (hg3_va3_0 : va3_0.length ≤ i3) (hL3 : items.l.length ≤ 1099511627776), (lim cfg).loop 66 lp66_3 ⟨25, [(2, .lref 0 0 3 0), (5, .lsl 1 0 va3_0.length 1 none), (8, .sl items.nl (items.l.map I) (zsl items.nl 1) none), (9, I ((items.l.length : Nat) : Int)), (10, I ((i3 : Nat) : Int))], [(0, ⟨[.agg [.sl e.items.nl (e.items.l.map S_Item.D) (zsl e.items.nl 4) none, I e.whole.lo, I e.whole.hi]], 3, false⟩), (1, ⟨va3_0.map I, 1, false⟩)], 2, 0⟩ = some (lr_orders_gains_3 e items (orders_gains_3a e rest3 va3_0)) := by
  intro rest3
  induction rest3 with
  | nil =>
    intro i3 va3_0 hd3 hi3 hall hg3_va3_0 hL3
    unfold orders_gains_3a
    obtain rfl : i3 = items.l.length := nil_eq hd3 hi3
    exact zP [.dec false] (And.intro (lt_no hd3) trivial) (by kernel_rfl)
  | cons x3 rest3 ih =>
    intro i3 va3_0 hd3 hi3 hall hg3_va3_0 hL3
    have hlt3 := zx hd3
    have hbx := hall x3 (mem_drop hd3)
    unfold orders_gains_3a
    exact po_turn' (ks := [2, 5, 8, 9, 10]) (st' := (sd77 e items i3 x3 va3_0)) [.dec true, .el (I x3), .el (.agg [I ((GS.at e.items x3).now.lo), I ((GS.at e.items x3).now.hi), I ((GS.at e.items x3).cost), I ((GS.at e.items x3).error)]), .pure (I (zr (GS.at e.items x3))), .op (some 22) ⟨.lsl 3 0 ((va3_0 ++ [(zr (GS.at e.items x3))]).length) 1 none, [(1, none), (3, some ⟨(va3_0 ++ [(zr (GS.at e.items x3))]).map I, 1, false⟩)], [1, 2], 4⟩, .rw 23 (I ((i3 + 1 : Nat) : Int))] (And.intro (inc_rw (i := i3) (by have := zx hd3; omega)) (And.intro (app_row (f := I) (te := ty3) (gO := zM [(0, ⟨[.agg [.sl e.items.nl (e.items.l.map S_Item.D) (zsl e.items.nl 4) none, I e.whole.lo, I e.whole.hi]], 3, false⟩), (1, ⟨va3_0.map I, 1, false⟩), (2, ⟨[I (zr (GS.at e.items x3))], 1, false⟩)]) (nxt := 3) (o := 1) (o2 := 2) (fz := false) zZ va3_0 (zr (GS.at e.items x3)) (by kernel_rfl) (by kernel_rfl) rfl (by kernel_rfl) (by decide) ⟨by simp only [ty3, big] <;> (first | assumption | omega | (simp only [z9] at * <;> omega) | (simp only [z5, z6, z7, GS.some_l, List.length_set, List.length_append, List.length_cons, List.length_nil] at * <;> first | assumption | omega) | (simp only [z5, z6, z7, GS.some_l, List.length_set, List.length_append, List.length_cons, List.length_nil, z9] at * <;> first | assumption | omega) | (simp at * <;> omega)), by simp only [big] <;> (first | assumption | omega | (simp only [z9] at * <;> omega) | (simp only [z5, z6, z7, GS.some_l, List.length_set, List.length_append, List.length_cons, List.length_nil] at * <;> first | assumption | omega) | (simp only [z5, z6, z7, GS.some_l, List.length_set, List.length_append, List.length_cons, List.length_nil, z9] at * <;> first | assumption | omega) | (simp at * <;> omega))⟩) (And.intro (T_orders_gain (GS.at e.items x3)) (And.intro (el_in (s := e.items) (f := S_Item.D) (k := 4) (i := x3) (by first | assumption | omega | (simp only [z9] at * <;> omega) | (simp only [z5, z6, z7, GS.some_l, List.length_set, List.length_append, List.length_cons, List.length_nil] at * <;> first | assumption | omega) | (simp only [z5, z6, z7, GS.some_l, List.length_set, List.length_append, List.length_cons, List.length_nil, z9] at * <;> first | assumption | omega) | (simp at * <;> omega)) (by first | assumption | omega | (simp only [z9] at * <;> omega) | (simp only [z5, z6, z7, GS.some_l, List.length_set, List.length_append, List.length_cons, List.length_nil] at * <;> first | assumption | omega) | (simp only [z5, z6, z7, GS.some_l, List.length_set, List.length_append, List.length_cons, List.length_nil, z9] at * <;> first | assumption | omega) | (simp at * <;> omega))) (And.intro (el_at (s := items) (f := I) (k := 1) hd3) (And.intro (lt_at hd3) trivial)))))) (by kernel_rfl) (by (simp only [sd77, go_sem, Nat.reduceAdd, Nat.reduceEqDiff, Nat.reduceLT, Nat.reduceLeDiff, bI2, zZ.idsL, zZ.renL, zZ.snapAll, zn.idsL, zn.renL, zn.snapAll]) <;> rfl) (ih (i3 + 1) (va3_0 ++ [(zr (GS.at e.items x3))]) (zE hd3) (zx hd3) (by first | assumption | omega | (simp only [z9] at * <;> omega) | (simp only [z5, z6, z7, GS.some_l, List.length_set, List.length_append, List.length_cons, List.length_nil] at * <;> first | assumption | omega) | (simp only [z5, z6, z7, GS.some_l, List.length_set, List.length_append, List.length_cons, List.length_nil, z9] at * <;> first | assumption | omega) | (simp at * <;> omega)) (by first | assumption | omega | (simp only [z9] at * <;> omega) | (simp only [z5, z6, z7, GS.some_l, List.length_set, List.length_append, List.length_cons, List.length_nil] at * <;> first | assumption | omega) | (simp only [z5, z6, z7, GS.some_l, List.length_set, List.length_append, List.length_cons, List.length_nil, z9] at * <;> first | assumption | omega) | (simp at * <;> omega)) (by first | assumption | omega | (simp only [z9] at * <;> omega) | (simp only [z5, z6, z7, GS.some_l, List.length_set, List.length_append, List.length_cons, List.length_nil] at * <;> first | assumption | omega) | (simp only [z5, z6, z7, GS.some_l, List.length_set, List.length_append, List.length_cons, List.length_nil, z9] at * <;> first | assumption | omega) | (simp at * <;> omega))) (by kernel_rfl)
theorem ivt_orders_gains_3a (e : S_Estate) (items : GS Int) : ∀ (rest3 : List Int) (i3 : Nat) (va3_0 : List Int) (hd3 : items.l.drop i3 = rest3) (hi3 : i3 ≤ items.l.length) (hall : ∀ i ∈ items.l, 0 ≤ i ∧ i < ((e.items.l.length : Nat) : Int)) (hg3_va3_0 : va3_0.length ≤ i3) (hL3 : items.l.length ≤ 1099511627776), iv_orders_gains_3 e items (orders_gains_3a e rest3 va3_0) := by
  intro rest3
  induction rest3 with
  | nil =>
    intro i3 va3_0 hd3 hi3 hall hg3_va3_0 hL3
    unfold orders_gains_3a
    obtain rfl : i3 = items.l.length := nil_eq hd3 hi3
    exact hg3_va3_0
  | cons x3 rest3 ih =>
    intro i3 va3_0 hd3 hi3 hall hg3_va3_0 hL3
    have hlt3 := zx hd3
    have hbx := hall x3 (mem_drop hd3)
    unfold orders_gains_3a
    exact ih (i3 + 1) (va3_0 ++ [(zr (GS.at e.items x3))]) (zE hd3) (zx hd3) (by first | assumption | omega | (simp only [z9] at * <;> omega) | (simp only [z5, z6, z7, GS.some_l, List.length_set, List.length_append, List.length_cons, List.length_nil] at * <;> first | assumption | omega) | (simp only [z5, z6, z7, GS.some_l, List.length_set, List.length_append, List.length_cons, List.length_nil, z9] at * <;> first | assumption | omega) | (simp at * <;> omega)) (by first | assumption | omega | (simp only [z9] at * <;> omega) | (simp only [z5, z6, z7, GS.some_l, List.length_set, List.length_append, List.length_cons, List.length_nil] at * <;> first | assumption | omega) | (simp only [z5, z6, z7, GS.some_l, List.length_set, List.length_append, List.length_cons, List.length_nil, z9] at * <;> first | assumption | omega) | (simp at * <;> omega)) (by first | assumption | omega | (simp only [z9] at * <;> omega) | (simp only [z5, z6, z7, GS.some_l, List.length_set, List.length_append, List.length_cons, List.length_nil] at * <;> first | assumption | omega) | (simp only [z5, z6, z7, GS.some_l, List.length_set, List.length_append, List.length_cons, List.length_nil, z9] at * <;> first | assumption | omega) | (simp at * <;> omega))
theorem lp_orders_gains_3 (e : S_Estate) (items : GS Int) : ∀ (rest3 : List Int) (i3 : Nat) (hd3 : items.l.drop i3 = rest3) (hi3 : i3 ≤ items.l.length) (hall : ∀ i ∈ items.l, 0 ≤ i ∧ i < ((e.items.l.length : Nat) : Int)) (hL3 : items.l.length ≤ 1099511627776), (lim cfg).loop 66 lp66_3 ⟨25, [(2, .lref 0 0 3 0), (5, .sl true [] 0 none), (8, .sl items.nl (items.l.map I) (zsl items.nl 1) none), (9, I ((items.l.length : Nat) : Int)), (10, I ((i3 : Nat) : Int))], [(0, ⟨[.agg [.sl e.items.nl (e.items.l.map S_Item.D) (zsl e.items.nl 4) none, I e.whole.lo, I e.whole.hi]], 3, false⟩)], 1, 0⟩ = some (lr_orders_gains_3 e items (orders_gains_3 e rest3)) := by
  intro rest3
  induction rest3 with
  | nil =>
    intro i3 hd3 hi3 hall hL3
    unfold orders_gains_3
    obtain rfl : i3 = items.l.length := nil_eq hd3 hi3
    exact zP [.dec false] (And.intro (lt_no hd3) trivial) (by kernel_rfl)
  | cons x3 rest3 ih =>
    intro i3 hd3 hi3 hall hL3
    have hlt3 := zx hd3
    have hbx := hall x3 (mem_drop hd3)
    unfold orders_gains_3
    dsimp only
    exact po_turn [.dec true, .el (I x3), .el (.agg [I ((GS.at e.items x3).now.lo), I ((GS.at e.items x3).now.hi), I ((GS.at e.items x3).cost), I ((GS.at e.items x3).error)]), .pure (I (zr (GS.at e.items x3))), .rw 23 (I ((i3 + 1 : Nat) : Int))] (And.intro (inc_rw (i := i3) (by have := zx hd3; omega)) (And.intro (T_orders_gain (GS.at e.items x3)) (And.intro (el_in (s := e.items) (f := S_Item.D) (k := 4) (i := x3) (by first | assumption | omega | (simp only [z9] at * <;> omega) | (simp only [z5, z6, z7, GS.some_l, List.length_set, List.length_append, List.length_cons, List.length_nil] at * <;> first | assumption | omega) | (simp only [z5, z6, z7, GS.some_l, List.length_set, List.length_append, List.length_cons, List.length_nil, z9] at * <;> first | assumption | omega) | (simp at * <;> omega)) (by first | assumption | omega | (simp only [z9] at * <;> omega) | (simp only [z5, z6, z7, GS.some_l, List.length_set, List.length_append, List.length_cons, List.length_nil] at * <;> first | assumption | omega) | (simp only [z5, z6, z7, GS.some_l, List.length_set, List.length_append, List.length_cons, List.length_nil, z9] at * <;> first | assumption | omega) | (simp at * <;> omega))) (And.intro (el_at (s := items) (f := I) (k := 1) hd3) (And.intro (lt_at hd3) trivial))))) (lp_orders_gains_3a e items _ (i3 + 1) [(zr (GS.at e.items x3))] (zE hd3) (zx hd3) (by first | assumption | omega | (simp only [z9] at * <;> omega) | (simp only [z5, z6, z7, GS.some_l, List.length_set, List.length_append, List.length_cons, List.length_nil] at * <;> first | assumption | omega) | (simp only [z5, z6, z7, GS.some_l, List.length_set, List.length_append, List.length_cons, List.length_nil, z9] at * <;> first | assumption | omega) | (simp at * <;> omega)) (by first | assumption | omega | (simp only [z9] at * <;> omega) | (simp only [z5, z6, z7, GS.some_l, List.length_set, List.length_append, List.length_cons, List.length_nil] at * <;> first | assumption | omega) | (simp only [z5, z6, z7, GS.some_l, List.length_set, List.length_append, List.length_cons, List.length_nil, z9] at * <;> first | assumption | omega) | (simp at * <;> omega)) (by first | assumption | omega | (simp only [z9] at * <;> omega) | (simp only [z5, z6, z7, GS.some_l, List.length_set, List.length_append, List.length_cons, List.length_nil] at * <;> first | assumption | omega) | (simp only [z5, z6, z7, GS.some_l, List.length_set, List.length_append, List.length_cons, List.length_nil, z9] at * <;> first | assumption | omega) | (simp at * <;> omega))) (by kernel_rfl)
theorem ivt_orders_gains_3 (e : S_Estate) (items : GS Int) : ∀ (rest3 : List Int) (i3 : Nat) (hd3 : items.l.drop i3 = rest3) (hi3 : i3 ≤ items.l.length) (hall : ∀ i ∈ items.l, 0 ≤ i ∧ i < ((e.items.l.length : Nat) : Int)) (hL3 : items.l.length ≤ 1099511627776), iv_orders_gains_3 e items (orders_gains_3 e rest3) := by
  intro rest3
  induction rest3 with
  | nil =>
    intro i3 hd3 hi3 hall hL3
    unfold orders_gains_3
    obtain rfl : i3 = items.l.length := nil_eq hd3 hi3
    exact trivial
  | cons x3 rest3 ih =>
    intro i3 hd3 hi3 hall hL3
    have hlt3 := zx hd3
    have hbx := hall x3 (mem_drop hd3)
    unfold orders_gains_3
    dsimp only
    exact ivt_orders_gains_3a e items _ (i3 + 1) [(zr (GS.at e.items x3))] (zE hd3) (zx hd3) (by first | assumption | omega | (simp only [z9] at * <;> omega) | (simp only [z5, z6, z7, GS.some_l, List.length_set, List.length_append, List.length_cons, List.length_nil] at * <;> first | assumption | omega) | (simp only [z5, z6, z7, GS.some_l, List.length_set, List.length_append, List.length_cons, List.length_nil, z9] at * <;> first | assumption | omega) | (simp at * <;> omega)) (by first | assumption | omega | (simp only [z9] at * <;> omega) | (simp only [z5, z6, z7, GS.some_l, List.length_set, List.length_append, List.length_cons, List.length_nil] at * <;> first | assumption | omega) | (simp only [z5, z6, z7, GS.some_l, List.length_set, List.length_append, List.length_cons, List.length_nil, z9] at * <;> first | assumption | omega) | (simp at * <;> omega)) (by first | assumption | omega | (simp only [z9] at * <;> omega) | (simp only [z5, z6, z7, GS.some_l, List.length_set, List.length_append, List.length_cons, List.length_nil] at * <;> first | assumption | omega) | (simp only [z5, z6, z7, GS.some_l, List.length_set, List.length_append, List.length_cons, List.length_nil, z9] at * <;> first | assumption | omega) | (simp at * <;> omega))

def zf (e : S_Estate) (items : GS Int) : (GS Int) :=
  match orders_gains_3 e items.l with
  | .x0 va3_0 =>
    GS.some va3_0
  | .x1 =>
    GS.nil

def sd78 (e : S_Estate) (items : GS Int) (va3_0 : List Int) : St := ⟨25, [(11, B false), (2, .lref 0 0 3 0), (5, .lsl 1 0 va3_0.length 1 none), (8, .sl items.nl (items.l.map I) (zsl items.nl 1) none), (9, I ((items.l.length : Nat) : Int)), (10, I ((items.l.length : Nat) : Int))], [(0, ⟨[.agg [.sl e.items.nl (e.items.l.map S_Item.D) (zsl e.items.nl 4) none, I e.whole.lo, I e.whole.hi]], 3, false⟩), (1, ⟨va3_0.map I, 1, false⟩)], 2, 0⟩

def sd79 (e : S_Estate) (items : GS Int) : St := ⟨25, [(11, B false), (2, .lref 0 0 3 0), (5, .sl true [] 0 none), (8, .sl items.nl (items.l.map I) (zsl items.nl 1) none), (9, I ((items.l.length : Nat) : Int)), (10, I ((items.l.length : Nat) : Int))], [(0, ⟨[.agg [.sl e.items.nl (e.items.l.map S_Item.D) (zsl e.items.nl 4) none, I e.whole.lo, I e.whole.hi]], 3, false⟩)], 1, 0⟩

theorem T_orders_gains (e : S_Estate) (items : GS Int) (hall : ∀ i ∈ items.l, 0 ≤ i ∧ i < ((e.items.l.length : Nat) : Int)) (hL_items : items.l.length ≤ 1099511627776) : (lim cfg).pure 66 [S_Estate.D e, GS.D I 1 items] = some (GS.D I 1 (zf e items)) := by
  unfold zf
  cases h1 : orders_gains_3 e items.l with
  | x0 va3_0 =>
    try dsimp only
    have hv_h1 := ivt_orders_gains_3 e items items.l 0 (List.drop_zero) (Nat.zero_le _) (by first | assumption | omega | (simp only [z9] at * <;> omega) | (simp only [z5, z6, z7, GS.some_l, List.length_set, List.length_append, List.length_cons, List.length_nil] at * <;> first | assumption | omega) | (simp only [z5, z6, z7, GS.some_l, List.length_set, List.length_append, List.length_cons, List.length_nil, z9] at * <;> first | assumption | omega) | (simp at * <;> omega)) (by first | assumption | omega | (simp only [z9] at * <;> omega) | (simp only [z5, z6, z7, GS.some_l, List.length_set, List.length_append, List.length_cons, List.length_nil] at * <;> first | assumption | omega) | (simp only [z5, z6, z7, GS.some_l, List.length_set, List.length_append, List.length_cons, List.length_nil, z9] at * <;> first | assumption | omega) | (simp at * <;> omega))
    rw [h1] at hv_h1
    have hv_h1_0 := hv_h1
    try dsimp only [iv_orders_gains_3] at hv_h1_0
    exact po_pureS [.rw 9 (I ((items.l.length : Nat) : Int)), .loop (.exit 0) (sd78 e items va3_0)] [(1, .sl false (va3_0.map I) 1 none, [1])] (And.intro (snap_row (gO := zM [(0, ⟨[.agg [.sl e.items.nl (e.items.l.map S_Item.D) (zsl e.items.nl 4) none, I e.whole.lo, I e.whole.hi]], 3, false⟩), (1, ⟨va3_0.map I, 1, false⟩)]) (o := 1) (len := va3_0.length) (cap := none) (fz := false) zZ va3_0 (by kernel_rfl) (by first | assumption | omega | (simp only [z9] at * <;> omega) | (simp only [z5, z6, z7, GS.some_l, List.length_set, List.length_append, List.length_cons, List.length_nil] at * <;> first | assumption | omega) | (simp only [z5, z6, z7, GS.some_l, List.length_set, List.length_append, List.length_cons, List.length_nil, z9] at * <;> first | assumption | omega) | (simp at * <;> omega))) (And.intro (po_lr (q := lr_orders_gains_3 e items) (lp_orders_gains_3 e items items.l 0 (List.drop_zero) (Nat.zero_le _) (by first | assumption | omega | (simp only [z9] at * <;> omega) | (simp only [z5, z6, z7, GS.some_l, List.length_set, List.length_append, List.length_cons, List.length_nil] at * <;> first | assumption | omega) | (simp only [z5, z6, z7, GS.some_l, List.length_set, List.length_append, List.length_cons, List.length_nil, z9] at * <;> first | assumption | omega) | (simp at * <;> omega)) (by first | assumption | omega | (simp only [z9] at * <;> omega) | (simp only [z5, z6, z7, GS.some_l, List.length_set, List.length_append, List.length_cons, List.length_nil] at * <;> first | assumption | omega) | (simp only [z5, z6, z7, GS.some_l, List.length_set, List.length_append, List.length_cons, List.length_nil, z9] at * <;> first | assumption | omega) | (simp at * <;> omega))) h1) (And.intro (zg I items) trivial))) (by kernel_rfl)
  | x1 =>
    try dsimp only
    exact zi [.rw 9 (I ((items.l.length : Nat) : Int)), .loop (.exit 0) (sd79 e items)] (And.intro (po_lr (q := lr_orders_gains_3 e items) (lp_orders_gains_3 e items items.l 0 (List.drop_zero) (Nat.zero_le _) (by first | assumption | omega | (simp only [z9] at * <;> omega) | (simp only [z5, z6, z7, GS.some_l, List.length_set, List.length_append, List.length_cons, List.length_nil] at * <;> first | assumption | omega) | (simp only [z5, z6, z7, GS.some_l, List.length_set, List.length_append, List.length_cons, List.length_nil, z9] at * <;> first | assumption | omega) | (simp at * <;> omega)) (by first | assumption | omega | (simp only [z9] at * <;> omega) | (simp only [z5, z6, z7, GS.some_l, List.length_set, List.length_append, List.length_cons, List.length_nil] at * <;> first | assumption | omega) | (simp only [z5, z6, z7, GS.some_l, List.length_set, List.length_append, List.length_cons, List.length_nil, z9] at * <;> first | assumption | omega) | (simp at * <;> omega))) h1) (And.intro (zg I items) trivial)) (by kernel_rfl)

theorem gains_l (e : S_Estate) (items : GS Int) : (zf e items).l = items.l.map (fun i => zr (e.items.at i)) ∧ (zf e items).nl = items.l.isEmpty := by
  have key : ∀ (l v : List Int), orders_gains_3a e l v = .x0 (v ++ l.map (fun i => zr (e.items.at i))) := by
    intro l
    induction l with
    | nil => intro v; simp [orders_gains_3a]
    | cons x l ih => intro v; rw [orders_gains_3a, ih]; simp
  unfold zf
  cases items.l with
  | nil => exact ⟨rfl, rfl⟩
  | cons x l => rw [orders_gains_3, key]; exact ⟨rfl, rfl⟩
theorem z7 (e : S_Estate) (items : GS Int) : (zf e items).l.length = items.l.length := by rw [(gains_l e items).1, List.length_map]

def orders_worst (e : S_Estate) (items : GS Int) : Int :=
  ((zD (zd e (zj (zf e items)))).1)

theorem T_orders_worst (e : S_Estate) (items : GS Int) (hall : ∀ i ∈ items.l, 0 ≤ i ∧ i < ((e.items.l.length : Nat) : Int)) (hL_items : items.l.length ≤ 1099511627776) (hL_e_items : e.items.l.length ≤ 9223372036854775807) : (lim cfg).pure 61 [S_Estate.D e, GS.D I 1 items] = some (I (orders_worst e items)) := by
  unfold orders_worst
  exact zi [.pure (.sl ((zf e items).nl) (((zf e items).l).map I) (zsl ((zf e items).nl) 1) none), .pure (I (zj (zf e items))), .pure (.agg [I ((zd e (zj (zf e items))).at_.lo), I ((zd e (zj (zf e items))).at_.hi), I ((zd e (zj (zf e items))).room_), I ((zd e (zj (zf e items))).whole_.lo), I ((zd e (zj (zf e items))).whole_.hi)]), .pure (.tup [I ((zD (zd e (zj (zf e items)))).1), I ((zD (zd e (zj (zf e items)))).2)])] (And.intro (T_orders_window_widest (zd e (zj (zf e items)))) (And.intro (T_orders_windowOf e (zj (zf e items)) (by first | assumption | omega | (simp only [z9] at * <;> omega) | (simp only [z5, z6, z7, GS.some_l, List.length_set, List.length_append, List.length_cons, List.length_nil] at * <;> first | assumption | omega) | (simp only [z5, z6, z7, GS.some_l, List.length_set, List.length_append, List.length_cons, List.length_nil, z9] at * <;> first | assumption | omega) | (simp at * <;> omega))) (And.intro (T_orders_total (zf e items) (by first | assumption | omega | (simp only [z9] at * <;> omega) | (simp only [z5, z6, z7, GS.some_l, List.length_set, List.length_append, List.length_cons, List.length_nil] at * <;> first | assumption | omega) | (simp only [z5, z6, z7, GS.some_l, List.length_set, List.length_append, List.length_cons, List.length_nil, z9] at * <;> first | assumption | omega) | (simp at * <;> omega))) (And.intro (T_orders_gains e items (by first | assumption | omega | (simp only [z9] at * <;> omega) | (simp only [z5, z6, z7, GS.some_l, List.length_set, List.length_append, List.length_cons, List.length_nil] at * <;> first | assumption | omega) | (simp only [z5, z6, z7, GS.some_l, List.length_set, List.length_append, List.length_cons, List.length_nil, z9] at * <;> first | assumption | omega) | (simp at * <;> omega)) (by first | assumption | omega | (simp only [z9] at * <;> omega) | (simp only [z5, z6, z7, GS.some_l, List.length_set, List.length_append, List.length_cons, List.length_nil] at * <;> first | assumption | omega) | (simp only [z5, z6, z7, GS.some_l, List.length_set, List.length_append, List.length_cons, List.length_nil, z9] at * <;> first | assumption | omega) | (simp at * <;> omega))) trivial)))) (by kernel_rfl)

def zG (e : S_Estate) (items : GS Int) : Int × Int :=
  bif ((zC e items) != 0) then
    (0, (zC e items))
  else
    ((orders_worst e items), 0)

theorem zy (e : S_Estate) (items : GS Int) (hL : items.l.length ≤ 9223372036854775807) : (lim cfg).pure 26 [S_Estate.D e, GS.D I 1 items] = some (.tup [I ((zG e items).1), I ((zG e items).2)]) := by
  unfold zG
  cases h1 : ((zC e items) != 0) with
  | true =>
    have g1 := zY h1
    exact zi [.pure (I (zC e items)), .dec true] (And.intro h1 (And.intro (y8 e items (by first | assumption | omega | (simp only [z9] at * <;> omega) | (simp only [z5, z6, z7, GS.some_l, List.length_set, List.length_append, List.length_cons, List.length_nil] at * <;> first | assumption | omega) | (simp only [z5, z6, z7, GS.some_l, List.length_set, List.length_append, List.length_cons, List.length_nil, z9] at * <;> first | assumption | omega) | (simp at * <;> omega))) trivial)) (by kernel_rfl)
  | false =>
    obtain ⟨g1, gb1⟩ := And.intro (right_ok (by assumption) (zI h1)) (right_all (by assumption) (zI h1))
    exact zi [.pure (I (zC e items)), .dec false, .pure (I (orders_worst e items))] (And.intro (T_orders_worst e items (by first | assumption | omega | (simp only [z9] at * <;> omega) | (simp only [z5, z6, z7, GS.some_l, List.length_set, List.length_append, List.length_cons, List.length_nil] at * <;> first | assumption | omega) | (simp only [z5, z6, z7, GS.some_l, List.length_set, List.length_append, List.length_cons, List.length_nil, z9] at * <;> first | assumption | omega) | (simp at * <;> omega)) (by first | assumption | omega | (simp only [z9] at * <;> omega) | (simp only [z5, z6, z7, GS.some_l, List.length_set, List.length_append, List.length_cons, List.length_nil] at * <;> first | assumption | omega) | (simp only [z5, z6, z7, GS.some_l, List.length_set, List.length_append, List.length_cons, List.length_nil, z9] at * <;> first | assumption | omega) | (simp at * <;> omega)) (by first | assumption | omega | (simp only [z9] at * <;> omega) | (simp only [z5, z6, z7, GS.some_l, List.length_set, List.length_append, List.length_cons, List.length_nil] at * <;> first | assumption | omega) | (simp only [z5, z6, z7, GS.some_l, List.length_set, List.length_append, List.length_cons, List.length_nil, z9] at * <;> first | assumption | omega) | (simp at * <;> omega))) (And.intro h1 (And.intro (y8 e items (by first | assumption | omega | (simp only [z9] at * <;> omega) | (simp only [z5, z6, z7, GS.some_l, List.length_set, List.length_append, List.length_cons, List.length_nil] at * <;> first | assumption | omega) | (simp only [z5, z6, z7, GS.some_l, List.length_set, List.length_append, List.length_cons, List.length_nil, z9] at * <;> first | assumption | omega) | (simp at * <;> omega))) trivial))) (by kernel_rfl)

noncomputable def lp69_3 : Code := subC [1, 1, 0, 1, 0, 0] (bodyC Try.f69)

inductive LR_orders_cost_3 where
  | x0 (v3_0 : Int)
instance : Inhabited LR_orders_cost_3 := ⟨.x0 default⟩
def orders_cost_3 (e : S_Estate) : List Int → Int → LR_orders_cost_3
  | [], v3_0 => .x0 v3_0
  | x3 :: rest3, v3_0 =>
    orders_cost_3 e rest3 (w64 (v3_0 + ((GS.at e.items x3).cost)))
def lr_orders_cost_3 (e : S_Estate) (items : GS Int) : LR_orders_cost_3 → Exit × St
  | .x0 v3_0 => ((.exit 0), ⟨24, [(11, B false), (2, .lref 0 0 3 0), (5, I v3_0), (8, .sl items.nl (items.l.map I) (zsl items.nl 1) none), (9, I ((items.l.length : Nat) : Int)), (10, I ((items.l.length : Nat) : Int))], [(0, ⟨[.agg [.sl e.items.nl (e.items.l.map S_Item.D) (zsl e.items.nl 4) none, I e.whole.lo, I e.whole.hi]], 3, false⟩)], 1, 0⟩)
theorem lp_orders_cost_3 (e : S_Estate) (items : GS Int) : ∀ (rest3 : List Int) (i3 : Nat) (v3_0 : Int) (hd3 : items.l.drop i3 = rest3) (hi3 : i3 ≤ items.l.length) (hall : ∀ i ∈ items.l, 0 ≤ i ∧ i < ((e.items.l.length : Nat) : Int)) (hL3 : items.l.length ≤ 9223372036854775807), (lim cfg).loop 69 lp69_3 ⟨24, [(2, .lref 0 0 3 0), (5, I v3_0), (8, .sl items.nl (items.l.map I) (zsl items.nl 1) none), (9, I ((items.l.length : Nat) : Int)), (10, I ((i3 : Nat) : Int))], [(0, ⟨[.agg [.sl e.items.nl (e.items.l.map S_Item.D) (zsl e.items.nl 4) none, I e.whole.lo, I e.whole.hi]], 3, false⟩)], 1, 0⟩ = some (lr_orders_cost_3 e items (orders_cost_3 e rest3 v3_0)) := by
  intro rest3
  induction rest3 with
  | nil =>
    intro i3 v3_0 hd3 hi3 hall hL3
    unfold orders_cost_3
    obtain rfl : i3 = items.l.length := nil_eq hd3 hi3
    exact zP [.dec false] (And.intro (lt_no hd3) trivial) (by kernel_rfl)
  | cons x3 rest3 ih =>
    intro i3 v3_0 hd3 hi3 hall hL3
    have hlt3 := zx hd3
    have hbx := hall x3 (mem_drop hd3)
    unfold orders_cost_3
    exact po_turn [.dec true, .el (I x3), .el (.agg [I ((GS.at e.items x3).now.lo), I ((GS.at e.items x3).now.hi), I ((GS.at e.items x3).cost), I ((GS.at e.items x3).error)]), .rw 22 (I ((i3 + 1 : Nat) : Int))] (And.intro (inc_rw (i := i3) (by have := zx hd3; omega)) (And.intro (el_in (s := e.items) (f := S_Item.D) (k := 4) (i := x3) (by first | assumption | omega | (simp only [z9] at * <;> omega) | (simp only [z5, z6, z7, GS.some_l, List.length_set, List.length_append, List.length_cons, List.length_nil] at * <;> first | assumption | omega) | (simp only [z5, z6, z7, GS.some_l, List.length_set, List.length_append, List.length_cons, List.length_nil, z9] at * <;> first | assumption | omega) | (simp at * <;> omega)) (by first | assumption | omega | (simp only [z9] at * <;> omega) | (simp only [z5, z6, z7, GS.some_l, List.length_set, List.length_append, List.length_cons, List.length_nil] at * <;> first | assumption | omega) | (simp only [z5, z6, z7, GS.some_l, List.length_set, List.length_append, List.length_cons, List.length_nil, z9] at * <;> first | assumption | omega) | (simp at * <;> omega))) (And.intro (el_at (s := items) (f := I) (k := 1) hd3) (And.intro (lt_at hd3) trivial)))) (ih (i3 + 1) (w64 (v3_0 + ((GS.at e.items x3).cost))) (zE hd3) (zx hd3) (by first | assumption | omega | (simp only [z9] at * <;> omega) | (simp only [z5, z6, z7, GS.some_l, List.length_set, List.length_append, List.length_cons, List.length_nil] at * <;> first | assumption | omega) | (simp only [z5, z6, z7, GS.some_l, List.length_set, List.length_append, List.length_cons, List.length_nil, z9] at * <;> first | assumption | omega) | (simp at * <;> omega)) (by first | assumption | omega | (simp only [z9] at * <;> omega) | (simp only [z5, z6, z7, GS.some_l, List.length_set, List.length_append, List.length_cons, List.length_nil] at * <;> first | assumption | omega) | (simp only [z5, z6, z7, GS.some_l, List.length_set, List.length_append, List.length_cons, List.length_nil, z9] at * <;> first | assumption | omega) | (simp at * <;> omega))) (by kernel_rfl)

def orders_cost (e : S_Estate) (items : GS Int) : Int :=
  match orders_cost_3 e items.l 0 with
  | .x0 v3_0 =>
    v3_0

def sd80 (e : S_Estate) (items : GS Int) (v3_0 : Int) : St := ⟨24, [(11, B false), (2, .lref 0 0 3 0), (5, I v3_0), (8, .sl items.nl (items.l.map I) (zsl items.nl 1) none), (9, I ((items.l.length : Nat) : Int)), (10, I ((items.l.length : Nat) : Int))], [(0, ⟨[.agg [.sl e.items.nl (e.items.l.map S_Item.D) (zsl e.items.nl 4) none, I e.whole.lo, I e.whole.hi]], 3, false⟩)], 1, 0⟩

theorem T_orders_cost (e : S_Estate) (items : GS Int) (hall : ∀ i ∈ items.l, 0 ≤ i ∧ i < ((e.items.l.length : Nat) : Int)) (hL_items : items.l.length ≤ 9223372036854775807) : (lim cfg).pure 69 [S_Estate.D e, GS.D I 1 items] = some (I (orders_cost e items)) := by
  unfold orders_cost
  cases h1 : orders_cost_3 e items.l 0 with
  | x0 v3_0 =>
    try dsimp only
    exact zi [.rw 9 (I ((items.l.length : Nat) : Int)), .loop (.exit 0) (sd80 e items v3_0)] (And.intro (po_lr (q := lr_orders_cost_3 e items) (lp_orders_cost_3 e items items.l 0 0 (List.drop_zero) (Nat.zero_le _) (by first | assumption | omega | (simp only [z9] at * <;> omega) | (simp only [z5, z6, z7, GS.some_l, List.length_set, List.length_append, List.length_cons, List.length_nil] at * <;> first | assumption | omega) | (simp only [z5, z6, z7, GS.some_l, List.length_set, List.length_append, List.length_cons, List.length_nil, z9] at * <;> first | assumption | omega) | (simp at * <;> omega)) (by first | assumption | omega | (simp only [z9] at * <;> omega) | (simp only [z5, z6, z7, GS.some_l, List.length_set, List.length_append, List.length_cons, List.length_nil] at * <;> first | assumption | omega) | (simp only [z5, z6, z7, GS.some_l, List.length_set, List.length_append, List.length_cons, List.length_nil, z9] at * <;> first | assumption | omega) | (simp at * <;> omega))) h1) (And.intro (zg I items) trivial)) (by kernel_rfl)

def orders_Cost (e : S_Estate) (items : GS Int) : Int × Int :=
  bif ((zC e items) != 0) then
    (0, (zC e items))
  else
    ((orders_cost e items), 0)

theorem T_orders_Cost (e : S_Estate) (items : GS Int) (hL : items.l.length ≤ 9223372036854775807) : (lim cfg).pure 27 [S_Estate.D e, GS.D I 1 items] = some (.tup [I ((orders_Cost e items).1), I ((orders_Cost e items).2)]) := by
  unfold orders_Cost
  cases h1 : ((zC e items) != 0) with
  | true =>
    have g1 := zY h1
    exact zi [.pure (I (zC e items)), .dec true] (And.intro h1 (And.intro (y8 e items (by first | assumption | omega | (simp only [z9] at * <;> omega) | (simp only [z5, z6, z7, GS.some_l, List.length_set, List.length_append, List.length_cons, List.length_nil] at * <;> first | assumption | omega) | (simp only [z5, z6, z7, GS.some_l, List.length_set, List.length_append, List.length_cons, List.length_nil, z9] at * <;> first | assumption | omega) | (simp at * <;> omega))) trivial)) (by kernel_rfl)
  | false =>
    obtain ⟨g1, gb1⟩ := And.intro (right_ok (by assumption) (zI h1)) (right_all (by assumption) (zI h1))
    exact zi [.pure (I (zC e items)), .dec false, .pure (I (orders_cost e items))] (And.intro (T_orders_cost e items (by first | assumption | omega | (simp only [z9] at * <;> omega) | (simp only [z5, z6, z7, GS.some_l, List.length_set, List.length_append, List.length_cons, List.length_nil] at * <;> first | assumption | omega) | (simp only [z5, z6, z7, GS.some_l, List.length_set, List.length_append, List.length_cons, List.length_nil, z9] at * <;> first | assumption | omega) | (simp at * <;> omega)) (by first | assumption | omega | (simp only [z9] at * <;> omega) | (simp only [z5, z6, z7, GS.some_l, List.length_set, List.length_append, List.length_cons, List.length_nil] at * <;> first | assumption | omega) | (simp only [z5, z6, z7, GS.some_l, List.length_set, List.length_append, List.length_cons, List.length_nil, z9] at * <;> first | assumption | omega) | (simp at * <;> omega))) (And.intro h1 (And.intro (y8 e items (by first | assumption | omega | (simp only [z9] at * <;> omega) | (simp only [z5, z6, z7, GS.some_l, List.length_set, List.length_append, List.length_cons, List.length_nil] at * <;> first | assumption | omega) | (simp only [z5, z6, z7, GS.some_l, List.length_set, List.length_append, List.length_cons, List.length_nil, z9] at * <;> first | assumption | omega) | (simp at * <;> omega))) trivial))) (by kernel_rfl)

noncomputable def lp72_3 : Code := subC [1, 1, 0, 1, 0, 0] (bodyC Try.f72)

def sd81 (e : S_Estate) (items : GS Int) (i3 : Nat) (x3 : Int) (va3_0 : Int) (va3_1 : List Int) : St := ⟨43, [(14, I ((i3 + 1 : Nat) : Int)), (41, I ((i3 + 1 : Nat) : Int)), (7, .lsl 4 0 ((va3_1 ++ [w64 ((w64 (((GS.at e.items x3).now.lo) + ((GS.at e.items x3).error))) + (y0 va3_0 (zr (GS.at e.items x3))))]).length) 1 none), (40, .lsl 4 0 ((va3_1 ++ [w64 ((w64 (((GS.at e.items x3).now.lo) + ((GS.at e.items x3).error))) + (y0 va3_0 (zr (GS.at e.items x3))))]).length) 1 none), (39, .lsl 3 0 1 1 (some 1)), (38, I (w64 ((w64 (((GS.at e.items x3).now.lo) + ((GS.at e.items x3).error))) + (y0 va3_0 (zr (GS.at e.items x3)))))), (37, I (y0 va3_0 (zr (GS.at e.items x3)))), (36, I (w64 (((GS.at e.items x3).now.lo) + ((GS.at e.items x3).error)))), (35, I ((GS.at e.items x3).error)), (34, .lref 2 0 4 3), (33, I ((GS.at e.items x3).now.lo)), (32, .lref 2 0 4 0), (31, .lref 2 0 4 0), (30, .lsl 1 0 va3_1.length 1 none), (2, I (w64 (va3_0 - (y0 va3_0 (zr (GS.at e.items x3)))))), (29, I (w64 (va3_0 - (y0 va3_0 (zr (GS.at e.items x3)))))), (28, I (y0 va3_0 (zr (GS.at e.items x3)))), (27, I va3_0), (11, I (y0 va3_0 (zr (GS.at e.items x3)))), (26, I (y0 va3_0 (zr (GS.at e.items x3)))), (25, I (zr (GS.at e.items x3))), (24, .agg [I ((GS.at e.items x3).now.lo), I ((GS.at e.items x3).now.hi), I ((GS.at e.items x3).cost), I ((GS.at e.items x3).error)]), (23, I va3_0), (10, .lref 2 0 4 0), (22, .agg [I ((GS.at e.items x3).now.lo), I ((GS.at e.items x3).now.hi), I ((GS.at e.items x3).cost), I ((GS.at e.items x3).error)]), (21, .ptr (.agg [I ((GS.at e.items x3).now.lo), I ((GS.at e.items x3).now.hi), I ((GS.at e.items x3).cost), I ((GS.at e.items x3).error)])), (20, I x3), (19, .sl e.items.nl (e.items.l.map S_Item.D) (zsl e.items.nl 4) none), (18, .lref 0 0 3 0), (9, I x3), (17, I x3), (16, .ptr (I x3)), (15, B true), (2, I va3_0), (3, .lref 0 0 3 0), (7, .lsl 1 0 va3_1.length 1 none), (12, .sl items.nl (items.l.map I) (zsl items.nl 1) none), (13, I ((items.l.length : Nat) : Int)), (14, I ((i3 : Nat) : Int))], [(0, ⟨[.agg [.sl e.items.nl (e.items.l.map S_Item.D) (zsl e.items.nl 4) none, I e.whole.lo, I e.whole.hi]], 3, false⟩), (2, ⟨[.agg [I ((GS.at e.items x3).now.lo), I ((GS.at e.items x3).now.hi), I ((GS.at e.items x3).cost), I ((GS.at e.items x3).error)]], 4, false⟩), (3, ⟨[I (w64 ((w64 (((GS.at e.items x3).now.lo) + ((GS.at e.items x3).error))) + (y0 va3_0 (zr (GS.at e.items x3)))))], 1, false⟩), (4, ⟨(va3_1 ++ [w64 ((w64 (((GS.at e.items x3).now.lo) + ((GS.at e.items x3).error))) + (y0 va3_0 (zr (GS.at e.items x3))))]).map I, 1, false⟩)], 5, 0⟩

inductive LR_orders_shown_3 where
  | x0 (va3_0 : Int) (va3_1 : List Int)
  | x1
instance : Inhabited LR_orders_shown_3 := ⟨.x0 default default⟩
def orders_shown_3a (e : S_Estate) (s : Int) : List Int → Int → (List Int) → LR_orders_shown_3
  | [], va3_0, va3_1 => .x0 va3_0 va3_1
  | x3 :: rest3, va3_0, va3_1 =>
    orders_shown_3a e s rest3 (w64 (va3_0 - (y0 va3_0 (zr (GS.at e.items x3))))) (va3_1 ++ [w64 ((w64 (((GS.at e.items x3).now.lo) + ((GS.at e.items x3).error))) + (y0 va3_0 (zr (GS.at e.items x3))))])
def orders_shown_3 (e : S_Estate) (s : Int) : List Int → LR_orders_shown_3
  | [] => .x1
  | x3 :: rest3 =>
    orders_shown_3a e s rest3 (w64 (s - (y0 s (zr (GS.at e.items x3))))) [w64 ((w64 (((GS.at e.items x3).now.lo) + ((GS.at e.items x3).error))) + (y0 s (zr (GS.at e.items x3))))]
def lr_orders_shown_3 (e : S_Estate) (items : GS Int) (s : Int) : LR_orders_shown_3 → Exit × St
  | .x0 va3_0 va3_1 => ((.exit 0), ⟨43, [(15, B false), (2, I va3_0), (3, .lref 0 0 3 0), (7, .lsl 1 0 va3_1.length 1 none), (12, .sl items.nl (items.l.map I) (zsl items.nl 1) none), (13, I ((items.l.length : Nat) : Int)), (14, I ((items.l.length : Nat) : Int))], [(0, ⟨[.agg [.sl e.items.nl (e.items.l.map S_Item.D) (zsl e.items.nl 4) none, I e.whole.lo, I e.whole.hi]], 3, false⟩), (1, ⟨va3_1.map I, 1, false⟩)], 2, 0⟩)
  | .x1 => ((.exit 0), ⟨43, [(15, B false), (2, I s), (3, .lref 0 0 3 0), (7, .sl true [] 0 none), (12, .sl items.nl (items.l.map I) (zsl items.nl 1) none), (13, I ((items.l.length : Nat) : Int)), (14, I ((items.l.length : Nat) : Int))], [(0, ⟨[.agg [.sl e.items.nl (e.items.l.map S_Item.D) (zsl e.items.nl 4) none, I e.whole.lo, I e.whole.hi]], 3, false⟩)], 1, 0⟩)
def iv_orders_shown_3 (e : S_Estate) (items : GS Int) (s : Int) : LR_orders_shown_3 → Prop
  | .x0 va3_0 va3_1 => (va3_1.length ≤ items.l.length)
  | .x1 => True
theorem lp_orders_shown_3a (e : S_Estate) (items : GS Int) (s : Int) : ∀ (rest3 : List Int) (i3 : Nat) (va3_0 : Int) (va3_1 : List Int) (hd3 : items.l.drop i3 = rest3) (hi3 : i3 ≤ items.l.length) (hall : ∀ i ∈ items.l, 0 ≤ i ∧ i < ((e.items.l.length : Nat) : Int)) (hg3_va3_1 : va3_1.length ≤ i3) (hL3 : items.l.length ≤ 1099511627776), (lim cfg).loop 72 lp72_3 ⟨43, [(2, I va3_0), (3, .lref 0 0 3 0), (7, .lsl 1 0 va3_1.length 1 none), (12, .sl items.nl (items.l.map I) (zsl items.nl 1) none), (13, I ((items.l.length : Nat) : Int)), (14, I ((i3 : Nat) : Int))], [(0, ⟨[.agg [.sl e.items.nl (e.items.l.map S_Item.D) (zsl e.items.nl 4) none, I e.whole.lo, I e.whole.hi]], 3, false⟩), (1, ⟨va3_1.map I, 1, false⟩)], 2, 0⟩ = some (lr_orders_shown_3 e items s (orders_shown_3a e s rest3 va3_0 va3_1)) := by
  intro rest3
  induction rest3 with
  | nil =>
    intro i3 va3_0 va3_1 hd3 hi3 hall hg3_va3_1 hL3
    unfold orders_shown_3a
    obtain rfl : i3 = items.l.length := nil_eq hd3 hi3
    exact zP [.dec false] (And.intro (lt_no hd3) trivial) (by kernel_rfl)
  | cons x3 rest3 ih =>
    intro i3 va3_0 va3_1 hd3 hi3 hall hg3_va3_1 hL3
    have hlt3 := zx hd3
    have hbx := hall x3 (mem_drop hd3)
    unfold orders_shown_3a
    exact po_turn' (ks := [2, 3, 7, 12, 13, 14]) (st' := (sd81 e items i3 x3 va3_0 va3_1)) [.dec true, .el (I x3), .el (.agg [I ((GS.at e.items x3).now.lo), I ((GS.at e.items x3).now.hi), I ((GS.at e.items x3).cost), I ((GS.at e.items x3).error)]), .pure (I (zr (GS.at e.items x3))), .op (some 40) ⟨.lsl 4 0 ((va3_1 ++ [w64 ((w64 (((GS.at e.items x3).now.lo) + ((GS.at e.items x3).error))) + (y0 va3_0 (zr (GS.at e.items x3))))]).length) 1 none, [(1, none), (4, some ⟨(va3_1 ++ [w64 ((w64 (((GS.at e.items x3).now.lo) + ((GS.at e.items x3).error))) + (y0 va3_0 (zr (GS.at e.items x3))))]).map I, 1, false⟩)], [1, 3], 5⟩, .rw 41 (I ((i3 + 1 : Nat) : Int))] (And.intro (inc_rw (i := i3) (by have := zx hd3; omega)) (And.intro (app_row (f := I) (te := ty3) (gO := zM [(0, ⟨[.agg [.sl e.items.nl (e.items.l.map S_Item.D) (zsl e.items.nl 4) none, I e.whole.lo, I e.whole.hi]], 3, false⟩), (1, ⟨va3_1.map I, 1, false⟩), (2, ⟨[.agg [I ((GS.at e.items x3).now.lo), I ((GS.at e.items x3).now.hi), I ((GS.at e.items x3).cost), I ((GS.at e.items x3).error)]], 4, false⟩), (3, ⟨[I (w64 ((w64 (((GS.at e.items x3).now.lo) + ((GS.at e.items x3).error))) + (y0 va3_0 (zr (GS.at e.items x3)))))], 1, false⟩)]) (nxt := 4) (o := 1) (o2 := 3) (fz := false) zZ va3_1 (w64 ((w64 (((GS.at e.items x3).now.lo) + ((GS.at e.items x3).error))) + (y0 va3_0 (zr (GS.at e.items x3))))) (by kernel_rfl) (by kernel_rfl) rfl (by kernel_rfl) (by decide) ⟨by simp only [ty3, big] <;> (first | assumption | omega | (simp only [z9] at * <;> omega) | (simp only [z5, z6, z7, GS.some_l, List.length_set, List.length_append, List.length_cons, List.length_nil] at * <;> first | assumption | omega) | (simp only [z5, z6, z7, GS.some_l, List.length_set, List.length_append, List.length_cons, List.length_nil, z9] at * <;> first | assumption | omega) | (simp at * <;> omega)), by simp only [big] <;> (first | assumption | omega | (simp only [z9] at * <;> omega) | (simp only [z5, z6, z7, GS.some_l, List.length_set, List.length_append, List.length_cons, List.length_nil] at * <;> first | assumption | omega) | (simp only [z5, z6, z7, GS.some_l, List.length_set, List.length_append, List.length_cons, List.length_nil, z9] at * <;> first | assumption | omega) | (simp at * <;> omega))⟩) (And.intro (T_orders_gain (GS.at e.items x3)) (And.intro (el_in (s := e.items) (f := S_Item.D) (k := 4) (i := x3) (by first | assumption | omega | (simp only [z9] at * <;> omega) | (simp only [z5, z6, z7, GS.some_l, List.length_set, List.length_append, List.length_cons, List.length_nil] at * <;> first | assumption | omega) | (simp only [z5, z6, z7, GS.some_l, List.length_set, List.length_append, List.length_cons, List.length_nil, z9] at * <;> first | assumption | omega) | (simp at * <;> omega)) (by first | assumption | omega | (simp only [z9] at * <;> omega) | (simp only [z5, z6, z7, GS.some_l, List.length_set, List.length_append, List.length_cons, List.length_nil] at * <;> first | assumption | omega) | (simp only [z5, z6, z7, GS.some_l, List.length_set, List.length_append, List.length_cons, List.length_nil, z9] at * <;> first | assumption | omega) | (simp at * <;> omega))) (And.intro (el_at (s := items) (f := I) (k := 1) hd3) (And.intro (lt_at hd3) trivial)))))) (by kernel_rfl) (by (simp only [sd81, go_sem, Nat.reduceAdd, Nat.reduceEqDiff, Nat.reduceLT, Nat.reduceLeDiff, bI2, zZ.idsL, zZ.renL, zZ.snapAll, zn.idsL, zn.renL, zn.snapAll]) <;> rfl) (ih (i3 + 1) (w64 (va3_0 - (y0 va3_0 (zr (GS.at e.items x3))))) (va3_1 ++ [w64 ((w64 (((GS.at e.items x3).now.lo) + ((GS.at e.items x3).error))) + (y0 va3_0 (zr (GS.at e.items x3))))]) (zE hd3) (zx hd3) (by first | assumption | omega | (simp only [z9] at * <;> omega) | (simp only [z5, z6, z7, GS.some_l, List.length_set, List.length_append, List.length_cons, List.length_nil] at * <;> first | assumption | omega) | (simp only [z5, z6, z7, GS.some_l, List.length_set, List.length_append, List.length_cons, List.length_nil, z9] at * <;> first | assumption | omega) | (simp at * <;> omega)) (by first | assumption | omega | (simp only [z9] at * <;> omega) | (simp only [z5, z6, z7, GS.some_l, List.length_set, List.length_append, List.length_cons, List.length_nil] at * <;> first | assumption | omega) | (simp only [z5, z6, z7, GS.some_l, List.length_set, List.length_append, List.length_cons, List.length_nil, z9] at * <;> first | assumption | omega) | (simp at * <;> omega)) (by first | assumption | omega | (simp only [z9] at * <;> omega) | (simp only [z5, z6, z7, GS.some_l, List.length_set, List.length_append, List.length_cons, List.length_nil] at * <;> first | assumption | omega) | (simp only [z5, z6, z7, GS.some_l, List.length_set, List.length_append, List.length_cons, List.length_nil, z9] at * <;> first | assumption | omega) | (simp at * <;> omega))) (by kernel_rfl)
theorem ivt_orders_shown_3a (e : S_Estate) (items : GS Int) (s : Int) : ∀ (rest3 : List Int) (i3 : Nat) (va3_0 : Int) (va3_1 : List Int) (hd3 : items.l.drop i3 = rest3) (hi3 : i3 ≤ items.l.length) (hall : ∀ i ∈ items.l, 0 ≤ i ∧ i < ((e.items.l.length : Nat) : Int)) (hg3_va3_1 : va3_1.length ≤ i3) (hL3 : items.l.length ≤ 1099511627776), iv_orders_shown_3 e items s (orders_shown_3a e s rest3 va3_0 va3_1) := by
  intro rest3
  induction rest3 with
  | nil =>
    intro i3 va3_0 va3_1 hd3 hi3 hall hg3_va3_1 hL3
    unfold orders_shown_3a
    obtain rfl : i3 = items.l.length := nil_eq hd3 hi3
    exact hg3_va3_1
  | cons x3 rest3 ih =>
    intro i3 va3_0 va3_1 hd3 hi3 hall hg3_va3_1 hL3
    have hlt3 := zx hd3
    have hbx := hall x3 (mem_drop hd3)
    unfold orders_shown_3a
    exact ih (i3 + 1) (w64 (va3_0 - (y0 va3_0 (zr (GS.at e.items x3))))) (va3_1 ++ [w64 ((w64 (((GS.at e.items x3).now.lo) + ((GS.at e.items x3).error))) + (y0 va3_0 (zr (GS.at e.items x3))))]) (zE hd3) (zx hd3) (by first | assumption | omega | (simp only [z9] at * <;> omega) | (simp only [z5, z6, z7, GS.some_l, List.length_set, List.length_append, List.length_cons, List.length_nil] at * <;> first | assumption | omega) | (simp only [z5, z6, z7, GS.some_l, List.length_set, List.length_append, List.length_cons, List.length_nil, z9] at * <;> first | assumption | omega) | (simp at * <;> omega)) (by first | assumption | omega | (simp only [z9] at * <;> omega) | (simp only [z5, z6, z7, GS.some_l, List.length_set, List.length_append, List.length_cons, List.length_nil] at * <;> first | assumption | omega) | (simp only [z5, z6, z7, GS.some_l, List.length_set, List.length_append, List.length_cons, List.length_nil, z9] at * <;> first | assumption | omega) | (simp at * <;> omega)) (by first | assumption | omega | (simp only [z9] at * <;> omega) | (simp only [z5, z6, z7, GS.some_l, List.length_set, List.length_append, List.length_cons, List.length_nil] at * <;> first | assumption | omega) | (simp only [z5, z6, z7, GS.some_l, List.length_set, List.length_append, List.length_cons, List.length_nil, z9] at * <;> first | assumption | omega) | (simp at * <;> omega))
theorem lp_orders_shown_3 (e : S_Estate) (items : GS Int) (s : Int) : ∀ (rest3 : List Int) (i3 : Nat) (hd3 : items.l.drop i3 = rest3) (hi3 : i3 ≤ items.l.length) (hall : ∀ i ∈ items.l, 0 ≤ i ∧ i < ((e.items.l.length : Nat) : Int)) (hL3 : items.l.length ≤ 1099511627776), (lim cfg).loop 72 lp72_3 ⟨43, [(2, I s), (3, .lref 0 0 3 0), (7, .sl true [] 0 none), (12, .sl items.nl (items.l.map I) (zsl items.nl 1) none), (13, I ((items.l.length : Nat) : Int)), (14, I ((i3 : Nat) : Int))], [(0, ⟨[.agg [.sl e.items.nl (e.items.l.map S_Item.D) (zsl e.items.nl 4) none, I e.whole.lo, I e.whole.hi]], 3, false⟩)], 1, 0⟩ = some (lr_orders_shown_3 e items s (orders_shown_3 e s rest3)) := by
  intro rest3
  induction rest3 with
  | nil =>
    intro i3 hd3 hi3 hall hL3
    unfold orders_shown_3
    obtain rfl : i3 = items.l.length := nil_eq hd3 hi3
    exact zP [.dec false] (And.intro (lt_no hd3) trivial) (by kernel_rfl)
  | cons x3 rest3 ih =>
    intro i3 hd3 hi3 hall hL3
    have hlt3 := zx hd3
    have hbx := hall x3 (mem_drop hd3)
    unfold orders_shown_3
    dsimp only
    exact po_turn [.dec true, .el (I x3), .el (.agg [I ((GS.at e.items x3).now.lo), I ((GS.at e.items x3).now.hi), I ((GS.at e.items x3).cost), I ((GS.at e.items x3).error)]), .pure (I (zr (GS.at e.items x3))), .rw 41 (I ((i3 + 1 : Nat) : Int))] (And.intro (inc_rw (i := i3) (by have := zx hd3; omega)) (And.intro (T_orders_gain (GS.at e.items x3)) (And.intro (el_in (s := e.items) (f := S_Item.D) (k := 4) (i := x3) (by first | assumption | omega | (simp only [z9] at * <;> omega) | (simp only [z5, z6, z7, GS.some_l, List.length_set, List.length_append, List.length_cons, List.length_nil] at * <;> first | assumption | omega) | (simp only [z5, z6, z7, GS.some_l, List.length_set, List.length_append, List.length_cons, List.length_nil, z9] at * <;> first | assumption | omega) | (simp at * <;> omega)) (by first | assumption | omega | (simp only [z9] at * <;> omega) | (simp only [z5, z6, z7, GS.some_l, List.length_set, List.length_append, List.length_cons, List.length_nil] at * <;> first | assumption | omega) | (simp only [z5, z6, z7, GS.some_l, List.length_set, List.length_append, List.length_cons, List.length_nil, z9] at * <;> first | assumption | omega) | (simp at * <;> omega))) (And.intro (el_at (s := items) (f := I) (k := 1) hd3) (And.intro (lt_at hd3) trivial))))) (lp_orders_shown_3a e items s _ (i3 + 1) (w64 (s - (y0 s (zr (GS.at e.items x3))))) [w64 ((w64 (((GS.at e.items x3).now.lo) + ((GS.at e.items x3).error))) + (y0 s (zr (GS.at e.items x3))))] (zE hd3) (zx hd3) (by first | assumption | omega | (simp only [z9] at * <;> omega) | (simp only [z5, z6, z7, GS.some_l, List.length_set, List.length_append, List.length_cons, List.length_nil] at * <;> first | assumption | omega) | (simp only [z5, z6, z7, GS.some_l, List.length_set, List.length_append, List.length_cons, List.length_nil, z9] at * <;> first | assumption | omega) | (simp at * <;> omega)) (by first | assumption | omega | (simp only [z9] at * <;> omega) | (simp only [z5, z6, z7, GS.some_l, List.length_set, List.length_append, List.length_cons, List.length_nil] at * <;> first | assumption | omega) | (simp only [z5, z6, z7, GS.some_l, List.length_set, List.length_append, List.length_cons, List.length_nil, z9] at * <;> first | assumption | omega) | (simp at * <;> omega)) (by first | assumption | omega | (simp only [z9] at * <;> omega) | (simp only [z5, z6, z7, GS.some_l, List.length_set, List.length_append, List.length_cons, List.length_nil] at * <;> first | assumption | omega) | (simp only [z5, z6, z7, GS.some_l, List.length_set, List.length_append, List.length_cons, List.length_nil, z9] at * <;> first | assumption | omega) | (simp at * <;> omega))) (by kernel_rfl)
theorem ivt_orders_shown_3 (e : S_Estate) (items : GS Int) (s : Int) : ∀ (rest3 : List Int) (i3 : Nat) (hd3 : items.l.drop i3 = rest3) (hi3 : i3 ≤ items.l.length) (hall : ∀ i ∈ items.l, 0 ≤ i ∧ i < ((e.items.l.length : Nat) : Int)) (hL3 : items.l.length ≤ 1099511627776), iv_orders_shown_3 e items s (orders_shown_3 e s rest3) := by
  intro rest3
  induction rest3 with
  | nil =>
    intro i3 hd3 hi3 hall hL3
    unfold orders_shown_3
    obtain rfl : i3 = items.l.length := nil_eq hd3 hi3
    exact trivial
  | cons x3 rest3 ih =>
    intro i3 hd3 hi3 hall hL3
    have hlt3 := zx hd3
    have hbx := hall x3 (mem_drop hd3)
    unfold orders_shown_3
    dsimp only
    exact ivt_orders_shown_3a e items s _ (i3 + 1) (w64 (s - (y0 s (zr (GS.at e.items x3))))) [w64 ((w64 (((GS.at e.items x3).now.lo) + ((GS.at e.items x3).error))) + (y0 s (zr (GS.at e.items x3))))] (zE hd3) (zx hd3) (by first | assumption | omega | (simp only [z9] at * <;> omega) | (simp only [z5, z6, z7, GS.some_l, List.length_set, List.length_append, List.length_cons, List.length_nil] at * <;> first | assumption | omega) | (simp only [z5, z6, z7, GS.some_l, List.length_set, List.length_append, List.length_cons, List.length_nil, z9] at * <;> first | assumption | omega) | (simp at * <;> omega)) (by first | assumption | omega | (simp only [z9] at * <;> omega) | (simp only [z5, z6, z7, GS.some_l, List.length_set, List.length_append, List.length_cons, List.length_nil] at * <;> first | assumption | omega) | (simp only [z5, z6, z7, GS.some_l, List.length_set, List.length_append, List.length_cons, List.length_nil, z9] at * <;> first | assumption | omega) | (simp at * <;> omega)) (by first | assumption | omega | (simp only [z9] at * <;> omega) | (simp only [z5, z6, z7, GS.some_l, List.length_set, List.length_append, List.length_cons, List.length_nil] at * <;> first | assumption | omega) | (simp only [z5, z6, z7, GS.some_l, List.length_set, List.length_append, List.length_cons, List.length_nil, z9] at * <;> first | assumption | omega) | (simp at * <;> omega))

def orders_shown (e : S_Estate) (items : GS Int) (s : Int) : (GS Int) :=
  match orders_shown_3 e s items.l with
  | .x0 va3_0 va3_1 =>
    GS.some va3_1
  | .x1 =>
    GS.nil

def sd82 (e : S_Estate) (items : GS Int) (va3_0 : Int) (va3_1 : List Int) : St := ⟨43, [(15, B false), (2, I va3_0), (3, .lref 0 0 3 0), (7, .lsl 1 0 va3_1.length 1 none), (12, .sl items.nl (items.l.map I) (zsl items.nl 1) none), (13, I ((items.l.length : Nat) : Int)), (14, I ((items.l.length : Nat) : Int))], [(0, ⟨[.agg [.sl e.items.nl (e.items.l.map S_Item.D) (zsl e.items.nl 4) none, I e.whole.lo, I e.whole.hi]], 3, false⟩), (1, ⟨va3_1.map I, 1, false⟩)], 2, 0⟩

def sd83 (e : S_Estate) (items : GS Int) (s : Int) : St := ⟨43, [(15, B false), (2, I s), (3, .lref 0 0 3 0), (7, .sl true [] 0 none), (12, .sl items.nl (items.l.map I) (zsl items.nl 1) none), (13, I ((items.l.length : Nat) : Int)), (14, I ((items.l.length : Nat) : Int))], [(0, ⟨[.agg [.sl e.items.nl (e.items.l.map S_Item.D) (zsl e.items.nl 4) none, I e.whole.lo, I e.whole.hi]], 3, false⟩)], 1, 0⟩

theorem T_orders_shown (e : S_Estate) (items : GS Int) (s : Int) (hall : ∀ i ∈ items.l, 0 ≤ i ∧ i < ((e.items.l.length : Nat) : Int)) (hL_items : items.l.length ≤ 1099511627776) : (lim cfg).pure 72 [S_Estate.D e, GS.D I 1 items, I s] = some (GS.D I 1 (orders_shown e items s)) := by
  unfold orders_shown
  cases h1 : orders_shown_3 e s items.l with
  | x0 va3_0 va3_1 =>
    try dsimp only
    have hv_h1 := ivt_orders_shown_3 e items s items.l 0 (List.drop_zero) (Nat.zero_le _) (by first | assumption | omega | (simp only [z9] at * <;> omega) | (simp only [z5, z6, z7, GS.some_l, List.length_set, List.length_append, List.length_cons, List.length_nil] at * <;> first | assumption | omega) | (simp only [z5, z6, z7, GS.some_l, List.length_set, List.length_append, List.length_cons, List.length_nil, z9] at * <;> first | assumption | omega) | (simp at * <;> omega)) (by first | assumption | omega | (simp only [z9] at * <;> omega) | (simp only [z5, z6, z7, GS.some_l, List.length_set, List.length_append, List.length_cons, List.length_nil] at * <;> first | assumption | omega) | (simp only [z5, z6, z7, GS.some_l, List.length_set, List.length_append, List.length_cons, List.length_nil, z9] at * <;> first | assumption | omega) | (simp at * <;> omega))
    rw [h1] at hv_h1
    have hv_h1_0 := hv_h1
    try dsimp only [iv_orders_shown_3] at hv_h1_0
    exact po_pureS [.rw 13 (I ((items.l.length : Nat) : Int)), .loop (.exit 0) (sd82 e items va3_0 va3_1)] [(1, .sl false (va3_1.map I) 1 none, [1])] (And.intro (snap_row (gO := zM [(0, ⟨[.agg [.sl e.items.nl (e.items.l.map S_Item.D) (zsl e.items.nl 4) none, I e.whole.lo, I e.whole.hi]], 3, false⟩), (1, ⟨va3_1.map I, 1, false⟩)]) (o := 1) (len := va3_1.length) (cap := none) (fz := false) zZ va3_1 (by kernel_rfl) (by first | assumption | omega | (simp only [z9] at * <;> omega) | (simp only [z5, z6, z7, GS.some_l, List.length_set, List.length_append, List.length_cons, List.length_nil] at * <;> first | assumption | omega) | (simp only [z5, z6, z7, GS.some_l, List.length_set, List.length_append, List.length_cons, List.length_nil, z9] at * <;> first | assumption | omega) | (simp at * <;> omega))) (And.intro (po_lr (q := lr_orders_shown_3 e items s) (lp_orders_shown_3 e items s items.l 0 (List.drop_zero) (Nat.zero_le _) (by first | assumption | omega | (simp only [z9] at * <;> omega) | (simp only [z5, z6, z7, GS.some_l, List.length_set, List.length_append, List.length_cons, List.length_nil] at * <;> first | assumption | omega) | (simp only [z5, z6, z7, GS.some_l, List.length_set, List.length_append, List.length_cons, List.length_nil, z9] at * <;> first | assumption | omega) | (simp at * <;> omega)) (by first | assumption | omega | (simp only [z9] at * <;> omega) | (simp only [z5, z6, z7, GS.some_l, List.length_set, List.length_append, List.length_cons, List.length_nil] at * <;> first | assumption | omega) | (simp only [z5, z6, z7, GS.some_l, List.length_set, List.length_append, List.length_cons, List.length_nil, z9] at * <;> first | assumption | omega) | (simp at * <;> omega))) h1) (And.intro (zg I items) trivial))) (by kernel_rfl)
  | x1 =>
    try dsimp only
    exact zi [.rw 13 (I ((items.l.length : Nat) : Int)), .loop (.exit 0) (sd83 e items s)] (And.intro (po_lr (q := lr_orders_shown_3 e items s) (lp_orders_shown_3 e items s items.l 0 (List.drop_zero) (Nat.zero_le _) (by first | assumption | omega | (simp only [z9] at * <;> omega) | (simp only [z5, z6, z7, GS.some_l, List.length_set, List.length_append, List.length_cons, List.length_nil] at * <;> first | assumption | omega) | (simp only [z5, z6, z7, GS.some_l, List.length_set, List.length_append, List.length_cons, List.length_nil, z9] at * <;> first | assumption | omega) | (simp at * <;> omega)) (by first | assumption | omega | (simp only [z9] at * <;> omega) | (simp only [z5, z6, z7, GS.some_l, List.length_set, List.length_append, List.length_cons, List.length_nil] at * <;> first | assumption | omega) | (simp only [z5, z6, z7, GS.some_l, List.length_set, List.length_append, List.length_cons, List.length_nil, z9] at * <;> first | assumption | omega) | (simp at * <;> omega))) h1) (And.intro (zg I items) trivial)) (by kernel_rfl)

def zt (e : S_Estate) (items : GS Int) : (GS Int) × Int :=
  bif ((zC e items) != 0) then
    (GS.nil, (zC e items))
  else
    ((orders_shown e items ((zD (zd e (zj (zf e items)))).2)), 0)

theorem T_orders_Attain (e : S_Estate) (items : GS Int) (hL : items.l.length ≤ 9223372036854775807) : (lim cfg).pure 28 [S_Estate.D e, GS.D I 1 items] = some (.tup [GS.D I 1 ((zt e items).1), I ((zt e items).2)]) := by
  unfold zt
  cases h1 : ((zC e items) != 0) with
  | true =>
    have g1 := zY h1
    exact zi [.pure (I (zC e items)), .dec true] (And.intro h1 (And.intro (y8 e items (by first | assumption | omega | (simp only [z9] at * <;> omega) | (simp only [z5, z6, z7, GS.some_l, List.length_set, List.length_append, List.length_cons, List.length_nil] at * <;> first | assumption | omega) | (simp only [z5, z6, z7, GS.some_l, List.length_set, List.length_append, List.length_cons, List.length_nil, z9] at * <;> first | assumption | omega) | (simp at * <;> omega))) trivial)) (by kernel_rfl)
  | false =>
    obtain ⟨g1, gb1⟩ := And.intro (right_ok (by assumption) (zI h1)) (right_all (by assumption) (zI h1))
    exact zi [.pure (I (zC e items)), .dec false, .pure (.sl ((zf e items).nl) (((zf e items).l).map I) (zsl ((zf e items).nl) 1) none), .pure (I (zj (zf e items))), .pure (.agg [I ((zd e (zj (zf e items))).at_.lo), I ((zd e (zj (zf e items))).at_.hi), I ((zd e (zj (zf e items))).room_), I ((zd e (zj (zf e items))).whole_.lo), I ((zd e (zj (zf e items))).whole_.hi)]), .pure (.tup [I ((zD (zd e (zj (zf e items)))).1), I ((zD (zd e (zj (zf e items)))).2)]), .pure (.sl ((orders_shown e items ((zD (zd e (zj (zf e items)))).2)).nl) (((orders_shown e items ((zD (zd e (zj (zf e items)))).2)).l).map I) (zsl ((orders_shown e items ((zD (zd e (zj (zf e items)))).2)).nl) 1) none)] (And.intro (T_orders_shown e items ((zD (zd e (zj (zf e items)))).2) (by first | assumption | omega | (simp only [z9] at * <;> omega) | (simp only [z5, z6, z7, GS.some_l, List.length_set, List.length_append, List.length_cons, List.length_nil] at * <;> first | assumption | omega) | (simp only [z5, z6, z7, GS.some_l, List.length_set, List.length_append, List.length_cons, List.length_nil, z9] at * <;> first | assumption | omega) | (simp at * <;> omega)) (by first | assumption | omega | (simp only [z9] at * <;> omega) | (simp only [z5, z6, z7, GS.some_l, List.length_set, List.length_append, List.length_cons, List.length_nil] at * <;> first | assumption | omega) | (simp only [z5, z6, z7, GS.some_l, List.length_set, List.length_append, List.length_cons, List.length_nil, z9] at * <;> first | assumption | omega) | (simp at * <;> omega))) (And.intro (T_orders_window_widest (zd e (zj (zf e items)))) (And.intro (T_orders_windowOf e (zj (zf e items)) (by first | assumption | omega | (simp only [z9] at * <;> omega) | (simp only [z5, z6, z7, GS.some_l, List.length_set, List.length_append, List.length_cons, List.length_nil] at * <;> first | assumption | omega) | (simp only [z5, z6, z7, GS.some_l, List.length_set, List.length_append, List.length_cons, List.length_nil, z9] at * <;> first | assumption | omega) | (simp at * <;> omega))) (And.intro (T_orders_total (zf e items) (by first | assumption | omega | (simp only [z9] at * <;> omega) | (simp only [z5, z6, z7, GS.some_l, List.length_set, List.length_append, List.length_cons, List.length_nil] at * <;> first | assumption | omega) | (simp only [z5, z6, z7, GS.some_l, List.length_set, List.length_append, List.length_cons, List.length_nil, z9] at * <;> first | assumption | omega) | (simp at * <;> omega))) (And.intro (T_orders_gains e items (by first | assumption | omega | (simp only [z9] at * <;> omega) | (simp only [z5, z6, z7, GS.some_l, List.length_set, List.length_append, List.length_cons, List.length_nil] at * <;> first | assumption | omega) | (simp only [z5, z6, z7, GS.some_l, List.length_set, List.length_append, List.length_cons, List.length_nil, z9] at * <;> first | assumption | omega) | (simp at * <;> omega)) (by first | assumption | omega | (simp only [z9] at * <;> omega) | (simp only [z5, z6, z7, GS.some_l, List.length_set, List.length_append, List.length_cons, List.length_nil] at * <;> first | assumption | omega) | (simp only [z5, z6, z7, GS.some_l, List.length_set, List.length_append, List.length_cons, List.length_nil, z9] at * <;> first | assumption | omega) | (simp at * <;> omega))) (And.intro h1 (And.intro (y8 e items (by first | assumption | omega | (simp only [z9] at * <;> omega) | (simp only [z5, z6, z7, GS.some_l, List.length_set, List.length_append, List.length_cons, List.length_nil] at * <;> first | assumption | omega) | (simp only [z5, z6, z7, GS.some_l, List.length_set, List.length_append, List.length_cons, List.length_nil, z9] at * <;> first | assumption | omega) | (simp at * <;> omega))) trivial))))))) (by kernel_rfl)

noncomputable def lp67_3 : Code := subC [1, 1, 0, 1, 0, 0] (bodyC Try.f67)

def sd84 (n : Int) (i3 : Nat) (va3_0 : List Int) : St := ⟨15, [(6, I ((i3 + 1 : Nat) : Int)), (13, I ((i3 + 1 : Nat) : Int)), (3, .lsl 2 0 ((va3_0 ++ [((i3 : Nat) : Int)]).length) 1 none), (12, .lsl 2 0 ((va3_0 ++ [((i3 : Nat) : Int)]).length) 1 none), (11, .lsl 1 0 1 1 (some 1)), (10, I ((i3 : Nat) : Int)), (9, .lsl 0 0 va3_0.length 1 none), (4, I ((i3 : Nat) : Int)), (8, I ((i3 : Nat) : Int)), (7, B true), (3, .lsl 0 0 va3_0.length 1 none), (5, I n), (6, I ((i3 : Nat) : Int))], [(1, ⟨[I ((i3 : Nat) : Int)], 1, false⟩), (2, ⟨(va3_0 ++ [((i3 : Nat) : Int)]).map I, 1, false⟩)], 3, 0⟩

inductive LR_orders_numbers_3 where
  | x0 (i3 : Nat) (va3_0 : List Int)
  | x1 (i3 : Nat)
instance : Inhabited LR_orders_numbers_3 := ⟨.x0 default default⟩
def orders_numbers_3a : Nat → Nat → (List Int) → LR_orders_numbers_3
  | 0, i3, va3_0 => .x0 i3 va3_0
  | rest3 + 1, i3, va3_0 =>
    orders_numbers_3a rest3 (i3 + 1) (va3_0 ++ [((i3 : Nat) : Int)])
def orders_numbers_3 : Nat → Nat → LR_orders_numbers_3
  | 0, i3 => .x1 i3
  | rest3 + 1, i3 =>
    orders_numbers_3a rest3 (i3 + 1) [((i3 : Nat) : Int)]
def lr_orders_numbers_3 (n : Int) : LR_orders_numbers_3 → Exit × St
  | .x0 i3 va3_0 => ((.exit 0), ⟨15, [(7, B false), (3, .lsl 0 0 va3_0.length 1 none), (5, I n), (6, I ((i3 : Nat) : Int))], [(0, ⟨va3_0.map I, 1, false⟩)], 1, 0⟩)
  | .x1 i3 => ((.exit 0), ⟨15, [(7, B false), (3, .sl true [] 0 none), (5, I n), (6, I ((i3 : Nat) : Int))], [], 0, 0⟩)
def iv_orders_numbers_3 (n : Int) : LR_orders_numbers_3 → Prop
  | .x0 i3 va3_0 => (va3_0.length ≤ i3)
  | .x1 i3 => True
theorem lp_orders_numbers_3a (n : Int) : ∀ (rest3 : Nat) (i3 : Nat) (va3_0 : List Int) (hk3 : (n - ((i3 : Nat) : Int)).toNat = rest3) (hN3 : n ≤ 9223372036854775807) (hn : n ≤ 1099511627776) (hg3_va3_0 : va3_0.length ≤ i3) (hL3 : n ≤ 1099511627776), (lim cfg).loop 67 lp67_3 ⟨15, [(3, .lsl 0 0 va3_0.length 1 none), (5, I n), (6, I ((i3 : Nat) : Int))], [(0, ⟨va3_0.map I, 1, false⟩)], 1, 0⟩ = some (lr_orders_numbers_3 n (orders_numbers_3a rest3 i3 va3_0)) := by
  intro rest3
  induction rest3 with
  | zero =>
    intro i3 va3_0 hk3 hN3 hn hg3_va3_0 hL3
    unfold orders_numbers_3a
    exact zP [.dec false] (And.intro (ct_no hk3) trivial) (by kernel_rfl)
  | succ rest3 ih =>
    intro i3 va3_0 hk3 hN3 hn hg3_va3_0 hL3
    have hlt3 := of_decide_eq_true (ct_at hk3)
    unfold orders_numbers_3a
    exact po_turn' (ks := [3, 5, 6]) (st' := (sd84 n i3 va3_0)) [.dec true, .op (some 12) ⟨.lsl 2 0 ((va3_0 ++ [((i3 : Nat) : Int)]).length) 1 none, [(0, none), (2, some ⟨(va3_0 ++ [((i3 : Nat) : Int)]).map I, 1, false⟩)], [0, 1], 3⟩, .rw 13 (I ((i3 + 1 : Nat) : Int))] (And.intro (inc_rw (i := i3) (by first | assumption | omega | (simp only [z9] at * <;> omega) | (simp only [z5, z6, z7, GS.some_l, List.length_set, List.length_append, List.length_cons, List.length_nil] at * <;> first | assumption | omega) | (simp only [z5, z6, z7, GS.some_l, List.length_set, List.length_append, List.length_cons, List.length_nil, z9] at * <;> first | assumption | omega) | (simp at * <;> omega))) (And.intro (app_row (f := I) (te := ty3) (gO := zM [(0, ⟨va3_0.map I, 1, false⟩), (1, ⟨[I ((i3 : Nat) : Int)], 1, false⟩)]) (nxt := 2) (o := 0) (o2 := 1) (fz := false) zZ va3_0 ((i3 : Nat) : Int) (by kernel_rfl) (by kernel_rfl) rfl (by kernel_rfl) (by decide) ⟨by simp only [ty3, big] <;> (first | assumption | omega | (simp only [z9] at * <;> omega) | (simp only [z5, z6, z7, GS.some_l, List.length_set, List.length_append, List.length_cons, List.length_nil] at * <;> first | assumption | omega) | (simp only [z5, z6, z7, GS.some_l, List.length_set, List.length_append, List.length_cons, List.length_nil, z9] at * <;> first | assumption | omega) | (simp at * <;> omega)), by simp only [big] <;> (first | assumption | omega | (simp only [z9] at * <;> omega) | (simp only [z5, z6, z7, GS.some_l, List.length_set, List.length_append, List.length_cons, List.length_nil] at * <;> first | assumption | omega) | (simp only [z5, z6, z7, GS.some_l, List.length_set, List.length_append, List.length_cons, List.length_nil, z9] at * <;> first | assumption | omega) | (simp at * <;> omega))⟩) (And.intro (ct_at hk3) trivial))) (by kernel_rfl) (by (simp only [sd84, go_sem, Nat.reduceAdd, Nat.reduceEqDiff, Nat.reduceLT, Nat.reduceLeDiff, bI2, zZ.idsL, zZ.renL, zZ.snapAll, zn.idsL, zn.renL, zn.snapAll]) <;> rfl) (ih (i3 + 1) (va3_0 ++ [((i3 : Nat) : Int)]) (by omega) hN3 (by first | assumption | omega | (simp only [z9] at * <;> omega) | (simp only [z5, z6, z7, GS.some_l, List.length_set, List.length_append, List.length_cons, List.length_nil] at * <;> first | assumption | omega) | (simp only [z5, z6, z7, GS.some_l, List.length_set, List.length_append, List.length_cons, List.length_nil, z9] at * <;> first | assumption | omega) | (simp at * <;> omega)) (by first | assumption | omega | (simp only [z9] at * <;> omega) | (simp only [z5, z6, z7, GS.some_l, List.length_set, List.length_append, List.length_cons, List.length_nil] at * <;> first | assumption | omega) | (simp only [z5, z6, z7, GS.some_l, List.length_set, List.length_append, List.length_cons, List.length_nil, z9] at * <;> first | assumption | omega) | (simp at * <;> omega)) (by first | assumption | omega | (simp only [z9] at * <;> omega) | (simp only [z5, z6, z7, GS.some_l, List.length_set, List.length_append, List.length_cons, List.length_nil] at * <;> first | assumption | omega) | (simp only [z5, z6, z7, GS.some_l, List.length_set, List.length_append, List.length_cons, List.length_nil, z9] at * <;> first | assumption | omega) | (simp at * <;> omega))) (by kernel_rfl)
theorem ivt_orders_numbers_3a (n : Int) : ∀ (rest3 : Nat) (i3 : Nat) (va3_0 : List Int) (hk3 : (n - ((i3 : Nat) : Int)).toNat = rest3) (hN3 : n ≤ 9223372036854775807) (hn : n ≤ 1099511627776) (hg3_va3_0 : va3_0.length ≤ i3) (hL3 : n ≤ 1099511627776), iv_orders_numbers_3 n (orders_numbers_3a rest3 i3 va3_0) := by
  intro rest3
  induction rest3 with
  | zero =>
    intro i3 va3_0 hk3 hN3 hn hg3_va3_0 hL3
    unfold orders_numbers_3a
    exact hg3_va3_0
  | succ rest3 ih =>
    intro i3 va3_0 hk3 hN3 hn hg3_va3_0 hL3
    have hlt3 := of_decide_eq_true (ct_at hk3)
    unfold orders_numbers_3a
    exact ih (i3 + 1) (va3_0 ++ [((i3 : Nat) : Int)]) (by omega) hN3 (by first | assumption | omega | (simp only [z9] at * <;> omega) | (simp only [z5, z6, z7, GS.some_l, List.length_set, List.length_append, List.length_cons, List.length_nil] at * <;> first | assumption | omega) | (simp only [z5, z6, z7, GS.some_l, List.length_set, List.length_append, List.length_cons, List.length_nil, z9] at * <;> first | assumption | omega) | (simp at * <;> omega)) (by first | assumption | omega | (simp only [z9] at * <;> omega) | (simp only [z5, z6, z7, GS.some_l, List.length_set, List.length_append, List.length_cons, List.length_nil] at * <;> first | assumption | omega) | (simp only [z5, z6, z7, GS.some_l, List.length_set, List.length_append, List.length_cons, List.length_nil, z9] at * <;> first | assumption | omega) | (simp at * <;> omega)) (by first | assumption | omega | (simp only [z9] at * <;> omega) | (simp only [z5, z6, z7, GS.some_l, List.length_set, List.length_append, List.length_cons, List.length_nil] at * <;> first | assumption | omega) | (simp only [z5, z6, z7, GS.some_l, List.length_set, List.length_append, List.length_cons, List.length_nil, z9] at * <;> first | assumption | omega) | (simp at * <;> omega))
theorem lp_orders_numbers_3 (n : Int) : ∀ (rest3 : Nat) (i3 : Nat) (hk3 : (n - ((i3 : Nat) : Int)).toNat = rest3) (hN3 : n ≤ 9223372036854775807) (hn : n ≤ 1099511627776) (hL3 : n ≤ 1099511627776), (lim cfg).loop 67 lp67_3 ⟨15, [(3, .sl true [] 0 none), (5, I n), (6, I ((i3 : Nat) : Int))], [], 0, 0⟩ = some (lr_orders_numbers_3 n (orders_numbers_3 rest3 i3)) := by
  intro rest3
  induction rest3 with
  | zero =>
    intro i3 hk3 hN3 hn hL3
    unfold orders_numbers_3
    exact zP [.dec false] (And.intro (ct_no hk3) trivial) (by kernel_rfl)
  | succ rest3 ih =>
    intro i3 hk3 hN3 hn hL3
    have hlt3 := of_decide_eq_true (ct_at hk3)
    unfold orders_numbers_3
    dsimp only
    exact po_turn [.dec true, .rw 13 (I ((i3 + 1 : Nat) : Int))] (And.intro (inc_rw (i := i3) (by first | assumption | omega | (simp only [z9] at * <;> omega) | (simp only [z5, z6, z7, GS.some_l, List.length_set, List.length_append, List.length_cons, List.length_nil] at * <;> first | assumption | omega) | (simp only [z5, z6, z7, GS.some_l, List.length_set, List.length_append, List.length_cons, List.length_nil, z9] at * <;> first | assumption | omega) | (simp at * <;> omega))) (And.intro (ct_at hk3) trivial)) (lp_orders_numbers_3a n _ (i3 + 1) [((i3 : Nat) : Int)] (by omega) hN3 (by first | assumption | omega | (simp only [z9] at * <;> omega) | (simp only [z5, z6, z7, GS.some_l, List.length_set, List.length_append, List.length_cons, List.length_nil] at * <;> first | assumption | omega) | (simp only [z5, z6, z7, GS.some_l, List.length_set, List.length_append, List.length_cons, List.length_nil, z9] at * <;> first | assumption | omega) | (simp at * <;> omega)) (by first | assumption | omega | (simp only [z9] at * <;> omega) | (simp only [z5, z6, z7, GS.some_l, List.length_set, List.length_append, List.length_cons, List.length_nil] at * <;> first | assumption | omega) | (simp only [z5, z6, z7, GS.some_l, List.length_set, List.length_append, List.length_cons, List.length_nil, z9] at * <;> first | assumption | omega) | (simp at * <;> omega)) (by first | assumption | omega | (simp only [z9] at * <;> omega) | (simp only [z5, z6, z7, GS.some_l, List.length_set, List.length_append, List.length_cons, List.length_nil] at * <;> first | assumption | omega) | (simp only [z5, z6, z7, GS.some_l, List.length_set, List.length_append, List.length_cons, List.length_nil, z9] at * <;> first | assumption | omega) | (simp at * <;> omega))) (by kernel_rfl)
theorem ivt_orders_numbers_3 (n : Int) : ∀ (rest3 : Nat) (i3 : Nat) (hk3 : (n - ((i3 : Nat) : Int)).toNat = rest3) (hN3 : n ≤ 9223372036854775807) (hn : n ≤ 1099511627776) (hL3 : n ≤ 1099511627776), iv_orders_numbers_3 n (orders_numbers_3 rest3 i3) := by
  intro rest3
  induction rest3 with
  | zero =>
    intro i3 hk3 hN3 hn hL3
    unfold orders_numbers_3
    exact trivial
  | succ rest3 ih =>
    intro i3 hk3 hN3 hn hL3
    have hlt3 := of_decide_eq_true (ct_at hk3)
    unfold orders_numbers_3
    dsimp only
    exact ivt_orders_numbers_3a n _ (i3 + 1) [((i3 : Nat) : Int)] (by omega) hN3 (by first | assumption | omega | (simp only [z9] at * <;> omega) | (simp only [z5, z6, z7, GS.some_l, List.length_set, List.length_append, List.length_cons, List.length_nil] at * <;> first | assumption | omega) | (simp only [z5, z6, z7, GS.some_l, List.length_set, List.length_append, List.length_cons, List.length_nil, z9] at * <;> first | assumption | omega) | (simp at * <;> omega)) (by first | assumption | omega | (simp only [z9] at * <;> omega) | (simp only [z5, z6, z7, GS.some_l, List.length_set, List.length_append, List.length_cons, List.length_nil] at * <;> first | assumption | omega) | (simp only [z5, z6, z7, GS.some_l, List.length_set, List.length_append, List.length_cons, List.length_nil, z9] at * <;> first | assumption | omega) | (simp at * <;> omega)) (by first | assumption | omega | (simp only [z9] at * <;> omega) | (simp only [z5, z6, z7, GS.some_l, List.length_set, List.length_append, List.length_cons, List.length_nil] at * <;> first | assumption | omega) | (simp only [z5, z6, z7, GS.some_l, List.length_set, List.length_append, List.length_cons, List.length_nil, z9] at * <;> first | assumption | omega) | (simp at * <;> omega))

def zF (n : Int) : (GS Int) :=
  match orders_numbers_3 (n - 0).toNat 0 with
  | .x0 i3 va3_0 =>
    GS.some va3_0
  | .x1 i3 =>
    GS.nil

theorem T_orders_numbers (n : Int) (hn : n ≤ 1099511627776) : (lim cfg).pure 67 [I n] = some (GS.D I 1 (zF n)) := by
  unfold zF
  cases h1 : orders_numbers_3 (n - 0).toNat 0 with
  | x0 i3 va3_0 =>
    try dsimp only
    have hv_h1 := ivt_orders_numbers_3 n (n - 0).toNat 0 (by omega) (by first | assumption | omega | (simp only [z9] at * <;> omega) | (simp only [z5, z6, z7, GS.some_l, List.length_set, List.length_append, List.length_cons, List.length_nil] at * <;> first | assumption | omega) | (simp only [z5, z6, z7, GS.some_l, List.length_set, List.length_append, List.length_cons, List.length_nil, z9] at * <;> first | assumption | omega) | (simp at * <;> omega)) (by first | assumption | omega | (simp only [z9] at * <;> omega) | (simp only [z5, z6, z7, GS.some_l, List.length_set, List.length_append, List.length_cons, List.length_nil] at * <;> first | assumption | omega) | (simp only [z5, z6, z7, GS.some_l, List.length_set, List.length_append, List.length_cons, List.length_nil, z9] at * <;> first | assumption | omega) | (simp at * <;> omega)) (by first | assumption | omega | (simp only [z9] at * <;> omega) | (simp only [z5, z6, z7, GS.some_l, List.length_set, List.length_append, List.length_cons, List.length_nil] at * <;> first | assumption | omega) | (simp only [z5, z6, z7, GS.some_l, List.length_set, List.length_append, List.length_cons, List.length_nil, z9] at * <;> first | assumption | omega) | (simp at * <;> omega))
    rw [h1] at hv_h1
    have hv_h1_0 := hv_h1
    try dsimp only [iv_orders_numbers_3] at hv_h1_0
    exact po_pureS [.loop (.exit 0) ⟨15, [(7, B false), (3, .lsl 0 0 va3_0.length 1 none), (5, I n), (6, I ((i3 : Nat) : Int))], [(0, ⟨va3_0.map I, 1, false⟩)], 1, 0⟩] [(0, .sl false (va3_0.map I) 1 none, [0])] (And.intro (snap_row (gO := zM [(0, ⟨va3_0.map I, 1, false⟩)]) (o := 0) (len := va3_0.length) (cap := none) (fz := false) zZ va3_0 (by kernel_rfl) (by first | assumption | omega | (simp only [z9] at * <;> omega) | (simp only [z5, z6, z7, GS.some_l, List.length_set, List.length_append, List.length_cons, List.length_nil] at * <;> first | assumption | omega) | (simp only [z5, z6, z7, GS.some_l, List.length_set, List.length_append, List.length_cons, List.length_nil, z9] at * <;> first | assumption | omega) | (simp at * <;> omega))) (And.intro (po_lr (q := lr_orders_numbers_3 n) (lp_orders_numbers_3 n (n - 0).toNat 0 (by omega) (by first | assumption | omega | (simp only [z9] at * <;> omega) | (simp only [z5, z6, z7, GS.some_l, List.length_set, List.length_append, List.length_cons, List.length_nil] at * <;> first | assumption | omega) | (simp only [z5, z6, z7, GS.some_l, List.length_set, List.length_append, List.length_cons, List.length_nil, z9] at * <;> first | assumption | omega) | (simp at * <;> omega)) (by first | assumption | omega | (simp only [z9] at * <;> omega) | (simp only [z5, z6, z7, GS.some_l, List.length_set, List.length_append, List.length_cons, List.length_nil] at * <;> first | assumption | omega) | (simp only [z5, z6, z7, GS.some_l, List.length_set, List.length_append, List.length_cons, List.length_nil, z9] at * <;> first | assumption | omega) | (simp at * <;> omega)) (by first | assumption | omega | (simp only [z9] at * <;> omega) | (simp only [z5, z6, z7, GS.some_l, List.length_set, List.length_append, List.length_cons, List.length_nil] at * <;> first | assumption | omega) | (simp only [z5, z6, z7, GS.some_l, List.length_set, List.length_append, List.length_cons, List.length_nil, z9] at * <;> first | assumption | omega) | (simp at * <;> omega))) h1) trivial)) (by kernel_rfl)
  | x1 i3 =>
    try dsimp only
    exact zi [.loop (.exit 0) ⟨15, [(7, B false), (3, .sl true [] 0 none), (5, I n), (6, I ((i3 : Nat) : Int))], [], 0, 0⟩] (And.intro (po_lr (q := lr_orders_numbers_3 n) (lp_orders_numbers_3 n (n - 0).toNat 0 (by omega) (by first | assumption | omega | (simp only [z9] at * <;> omega) | (simp only [z5, z6, z7, GS.some_l, List.length_set, List.length_append, List.length_cons, List.length_nil] at * <;> first | assumption | omega) | (simp only [z5, z6, z7, GS.some_l, List.length_set, List.length_append, List.length_cons, List.length_nil, z9] at * <;> first | assumption | omega) | (simp at * <;> omega)) (by first | assumption | omega | (simp only [z9] at * <;> omega) | (simp only [z5, z6, z7, GS.some_l, List.length_set, List.length_append, List.length_cons, List.length_nil] at * <;> first | assumption | omega) | (simp only [z5, z6, z7, GS.some_l, List.length_set, List.length_append, List.length_cons, List.length_nil, z9] at * <;> first | assumption | omega) | (simp at * <;> omega)) (by first | assumption | omega | (simp only [z9] at * <;> omega) | (simp only [z5, z6, z7, GS.some_l, List.length_set, List.length_append, List.length_cons, List.length_nil] at * <;> first | assumption | omega) | (simp only [z5, z6, z7, GS.some_l, List.length_set, List.length_append, List.length_cons, List.length_nil, z9] at * <;> first | assumption | omega) | (simp at * <;> omega))) h1) trivial) (by kernel_rfl)
end Go.VS
namespace Go.VS
open Go Go.Proofs
set_option maxHeartbeats 0
set_option linter.unusedSimpArgs false
set_option linter.unusedVariables false
def upto (n : Int) : List Int := (List.range n.toNat).map (fun i => ((i : Nat) : Int))
theorem upto_mem {n : Int} : ∀ i ∈ upto n, 0 ≤ i ∧ i < n := by
  intro i hi
  obtain ⟨j, hj, rfl⟩ := List.mem_map.1 hi
  have := List.mem_range.1 hj
  omega
theorem numbers_l (n : Int) : (zF n).l = upto n ∧ (zF n).nl = (upto n).isEmpty := by
  have key : ∀ (k i : Nat) (v : List Int), ∃ j, orders_numbers_3a k i v = .x0 j (v ++ (List.range' i k).map (fun i => ((i : Nat) : Int))) := by
    intro k
    induction k with
    | zero => intro i v; exact ⟨i, by simp [orders_numbers_3a]⟩
    | succ k ih => intro i v; obtain ⟨j, hj⟩ := ih (i + 1) (v ++ [((i : Nat) : Int)]); exact ⟨j, by rw [orders_numbers_3a, hj, List.range'_succ]; simp⟩
  unfold zF upto
  rw [show n - 0 = n by omega]
  cases n.toNat with
  | zero => exact ⟨rfl, rfl⟩
  | succ k =>
    obtain ⟨j, hj⟩ := key k 1 [((0 : Nat) : Int)]
    rw [orders_numbers_3, hj, List.range_eq_range', List.range'_succ]
    exact ⟨rfl, rfl⟩
theorem za {n : Int} : ∀ i ∈ (zF n).l, 0 ≤ i ∧ i < n := by rw [(numbers_l n).1]; exact upto_mem
theorem upto_len {n : Int} : (upto n).length = n.toNat := by unfold upto; simp
theorem z8 {n : Int} : (zF n).l.length = n.toNat := by rw [(numbers_l n).1, upto_len]

def zh (e : S_Estate) : (GS Int) × Int :=
  bif ((zw e) != 0) then
    (GS.nil, (zw e))
  else
    ((zf e (zF ((e.items.l.length : Nat) : Int))), 0)

theorem zO (e : S_Estate) : (lim cfg).pure 41 [S_Estate.D e] = some (.tup [GS.D I 1 ((zh e).1), I ((zh e).2)]) := by
  unfold zh
  cases h1 : ((zw e) != 0) with
  | true =>
    have g1 := zY h1
    exact zi [.pure (I (zw e)), .dec true] (And.intro h1 (And.intro (zU e) trivial)) (by kernel_rfl)
  | false =>
    have g1 := check_len (zI h1)
    exact zi [.pure (I (zw e)), .dec false, .rw 13 (I ((e.items.l.length : Nat) : Int)), .pure (.sl ((zF ((e.items.l.length : Nat) : Int)).nl) (((zF ((e.items.l.length : Nat) : Int)).l).map I) (zsl ((zF ((e.items.l.length : Nat) : Int)).nl) 1) none), .pure (.sl ((zf e (zF ((e.items.l.length : Nat) : Int))).nl) (((zf e (zF ((e.items.l.length : Nat) : Int))).l).map I) (zsl ((zf e (zF ((e.items.l.length : Nat) : Int))).nl) 1) none)] (And.intro (T_orders_gains e (zF ((e.items.l.length : Nat) : Int)) (by first | assumption | omega | (exact za) | (simp only [z9] at * <;> omega) | (simp only [z5, z6, z7, z8, GS.some_l, List.length_set, List.length_append, List.length_cons, List.length_nil] at * <;> first | assumption | omega) | (simp only [z5, z6, z7, z8, GS.some_l, List.length_set, List.length_append, List.length_cons, List.length_nil, z9] at * <;> first | assumption | omega) | (simp at * <;> omega)) (by first | assumption | omega | (exact za) | (simp only [z9] at * <;> omega) | (simp only [z5, z6, z7, z8, GS.some_l, List.length_set, List.length_append, List.length_cons, List.length_nil] at * <;> first | assumption | omega) | (simp only [z5, z6, z7, z8, GS.some_l, List.length_set, List.length_append, List.length_cons, List.length_nil, z9] at * <;> first | assumption | omega) | (simp at * <;> omega))) (And.intro (T_orders_numbers ((e.items.l.length : Nat) : Int) (by first | assumption | omega | (exact za) | (simp only [z9] at * <;> omega) | (simp only [z5, z6, z7, z8, GS.some_l, List.length_set, List.length_append, List.length_cons, List.length_nil] at * <;> first | assumption | omega) | (simp only [z5, z6, z7, z8, GS.some_l, List.length_set, List.length_append, List.length_cons, List.length_nil, z9] at * <;> first | assumption | omega) | (simp at * <;> omega))) (And.intro (zg S_Item.D e.items) (And.intro h1 (And.intro (zU e) trivial))))) (by kernel_rfl)

noncomputable def lp79_2 : Code := subC [1, 0, 1, 0, 0] (bodyC Try.f79)

inductive LR_slices_Index_2 where
  | x0
  | x1 (i2 : Nat) (x2 : Int)
instance : Inhabited LR_slices_Index_2 := ⟨.x0⟩
def slices_Index_2 (x : Int) : List Int → Nat → LR_slices_Index_2
  | [], i2 => .x0
  | x2 :: rest2, i2 =>
    bif (x == x2) then
      .x1 i2 x2
    else
      slices_Index_2 x rest2 (i2 + 1)
def lr_slices_Index_2 (l : GS Int) (x : Int) : LR_slices_Index_2 → Exit × St
  | .x0 => ((.exit 0), ⟨19, [(9, B false), (0, .sl l.nl (l.l.map I) (zsl l.nl 1) none), (1, I x), (7, I ((l.l.length : Nat) : Int)), (8, I ((l.l.length : Nat) : Int))], [], 0, 0⟩)
  | .x1 i2 x2 => (.ret, ⟨19, [(4, I ((i2 : Nat) : Int)), (17, I ((i2 : Nat) : Int)), (16, B true), (15, I x2), (14, .ptr (I x2)), (13, I ((i2 : Nat) : Int)), (12, .sl l.nl (l.l.map I) (zsl l.nl 1) none), (11, I x), (5, I ((i2 : Nat) : Int)), (10, I ((i2 : Nat) : Int)), (9, B true), (0, .sl l.nl (l.l.map I) (zsl l.nl 1) none), (1, I x), (7, I ((l.l.length : Nat) : Int)), (8, I ((i2 : Nat) : Int))], [], 0, 0⟩)
theorem lp_slices_Index_2 (l : GS Int) (x : Int) : ∀ (rest2 : List Int) (i2 : Nat) (hd2 : l.l.drop i2 = rest2) (hi2 : i2 ≤ l.l.length) (hL2 : l.l.length ≤ 9223372036854775807), (lim cfg).loop 79 lp79_2 ⟨19, [(0, .sl l.nl (l.l.map I) (zsl l.nl 1) none), (1, I x), (7, I ((l.l.length : Nat) : Int)), (8, I ((i2 : Nat) : Int))], [], 0, 0⟩ = some (lr_slices_Index_2 l x (slices_Index_2 x rest2 i2)) := by
  intro rest2
  induction rest2 with
  | nil =>
    intro i2 hd2 hi2 hL2
    unfold slices_Index_2
    obtain rfl : i2 = l.l.length := nil_eq hd2 hi2
    exact zP [.dec false] (And.intro (lt_no hd2) trivial) (by kernel_rfl)
  | cons x2 rest2 ih =>
    intro i2 hd2 hi2 hL2
    have hlt2 := zx hd2
    unfold slices_Index_2
    cases h2 : (x == x2) with
    | true =>
      have g2 := eq_of_beq h2
      exact zP [.dec true, .el (I x2), .dec true] (And.intro h2 (And.intro (el_at (s := l) (f := I) (k := 1) hd2) (And.intro (lt_at hd2) trivial))) (by kernel_rfl)
    | false =>
      have g2 := ne_of_beq_false h2
      exact po_turn [.dec true, .el (I x2), .dec false, .rw 18 (I ((i2 + 1 : Nat) : Int))] (And.intro (inc_rw (i := i2) (by have := zx hd2; omega)) (And.intro h2 (And.intro (el_at (s := l) (f := I) (k := 1) hd2) (And.intro (lt_at hd2) trivial)))) (ih (i2 + 1) (zE hd2) (zx hd2) (by first | assumption | omega | (exact za) | (simp only [z9] at * <;> omega) | (simp only [z5, z6, z7, z8, GS.some_l, List.length_set, List.length_append, List.length_cons, List.length_nil] at * <;> first | assumption | omega) | (simp only [z5, z6, z7, z8, GS.some_l, List.length_set, List.length_append, List.length_cons, List.length_nil, z9] at * <;> first | assumption | omega) | (simp at * <;> omega))) (by kernel_rfl)

def slices_Index (l : GS Int) (x : Int) : Int :=
  match slices_Index_2 x l.l 0 with
  | .x0 =>
    (-1)
  | .x1 i2 x2 =>
    ((i2 : Nat) : Int)

def sd85 (l : GS Int) (x : Int) (i2 : Nat) (x2 : Int) : St := ⟨19, [(4, I ((i2 : Nat) : Int)), (17, I ((i2 : Nat) : Int)), (16, B true), (15, I x2), (14, .ptr (I x2)), (13, I ((i2 : Nat) : Int)), (12, .sl l.nl (l.l.map I) (zsl l.nl 1) none), (11, I x), (5, I ((i2 : Nat) : Int)), (10, I ((i2 : Nat) : Int)), (9, B true), (0, .sl l.nl (l.l.map I) (zsl l.nl 1) none), (1, I x), (7, I ((l.l.length : Nat) : Int)), (8, I ((i2 : Nat) : Int))], [], 0, 0⟩

theorem T_slices_Index (l : GS Int) (x : Int) (hL_l : l.l.length ≤ 9223372036854775807) : (lim cfg).pure 79 [GS.D I 1 l, I x] = some (I (slices_Index l x)) := by
  unfold slices_Index
  cases h3 : slices_Index_2 x l.l 0 with
  | x0 =>
    try dsimp only
    exact zi [.rw 7 (I ((l.l.length : Nat) : Int)), .loop (.exit 0) ⟨19, [(9, B false), (0, .sl l.nl (l.l.map I) (zsl l.nl 1) none), (1, I x), (7, I ((l.l.length : Nat) : Int)), (8, I ((l.l.length : Nat) : Int))], [], 0, 0⟩] (And.intro (po_lr (q := lr_slices_Index_2 l x) (lp_slices_Index_2 l x l.l 0 (List.drop_zero) (Nat.zero_le _) (by first | assumption | omega | (exact za) | (simp only [z9] at * <;> omega) | (simp only [z5, z6, z7, z8, GS.some_l, List.length_set, List.length_append, List.length_cons, List.length_nil] at * <;> first | assumption | omega) | (simp only [z5, z6, z7, z8, GS.some_l, List.length_set, List.length_append, List.length_cons, List.length_nil, z9] at * <;> first | assumption | omega) | (simp at * <;> omega))) h3) (And.intro (zg I l) trivial)) (by kernel_rfl)
  | x1 i2 x2 =>
    try dsimp only
    exact zi [.rw 7 (I ((l.l.length : Nat) : Int)), .loop .ret (sd85 l x i2 x2)] (And.intro (po_lr (q := lr_slices_Index_2 l x) (lp_slices_Index_2 l x l.l 0 (List.drop_zero) (Nat.zero_le _) (by first | assumption | omega | (exact za) | (simp only [z9] at * <;> omega) | (simp only [z5, z6, z7, z8, GS.some_l, List.length_set, List.length_append, List.length_cons, List.length_nil] at * <;> first | assumption | omega) | (simp only [z5, z6, z7, z8, GS.some_l, List.length_set, List.length_append, List.length_cons, List.length_nil, z9] at * <;> first | assumption | omega) | (simp at * <;> omega))) h3) (And.intro (zg I l) trivial)) (by kernel_rfl)

def slices_Contains (l : GS Int) (x : Int) : Bool :=
  bif decide ((slices_Index l x) ≥ 0) then
    true
  else
    false

theorem T_slices_Contains (l : GS Int) (x : Int) (hL_l : l.l.length ≤ 9223372036854775807) : (lim cfg).pure 36 [GS.D I 1 l, I x] = some (B (slices_Contains l x)) := by
  unfold slices_Contains
  cases h1 : decide ((slices_Index l x) ≥ 0) with
  | true =>
    have g1 := of_decide_eq_true h1
    exact zi [.pure (I (slices_Index l x)), .dec true] (And.intro h1 (And.intro (T_slices_Index l x (by first | assumption | omega | (exact za) | (simp only [z9] at * <;> omega) | (simp only [z5, z6, z7, z8, GS.some_l, List.length_set, List.length_append, List.length_cons, List.length_nil] at * <;> first | assumption | omega) | (simp only [z5, z6, z7, z8, GS.some_l, List.length_set, List.length_append, List.length_cons, List.length_nil, z9] at * <;> first | assumption | omega) | (simp at * <;> omega))) trivial)) (by kernel_rfl)
  | false =>
    have g1 := of_decide_eq_false h1
    exact zi [.pure (I (slices_Index l x)), .dec false] (And.intro h1 (And.intro (T_slices_Index l x (by first | assumption | omega | (exact za) | (simp only [z9] at * <;> omega) | (simp only [z5, z6, z7, z8, GS.some_l, List.length_set, List.length_append, List.length_cons, List.length_nil] at * <;> first | assumption | omega) | (simp only [z5, z6, z7, z8, GS.some_l, List.length_set, List.length_append, List.length_cons, List.length_nil, z9] at * <;> first | assumption | omega) | (simp at * <;> omega))) trivial)) (by kernel_rfl)

def orders_open (e : S_Estate) (items : GS Int) (low : Int) (high : Int) : (GS Int) × Bool :=
  bif decide ((yd ((zc (zd e (zj (zf e items)))).1) (w64 ((w64 (low + 1)) - ((zd e (zj (zf e items))).at_.hi)))) > ((zc (zd e (zj (zf e items)))).2)) then
    (GS.nil, false)
  else
    bif decide (((zl (zd e (zj (zf e items))) (yd ((zc (zd e (zj (zf e items)))).1) (w64 ((w64 (low + 1)) - ((zd e (zj (zf e items))).at_.hi))))).lo) ≥ high) then
      (GS.nil, false)
    else
      bif decide (((zl (zd e (zj (zf e items))) (yd ((zc (zd e (zj (zf e items)))).1) (w64 ((w64 (low + 1)) - ((zd e (zj (zf e items))).at_.hi))))).hi) ≤ low) then
        (GS.nil, false)
      else
        ((orders_shown e items (yd ((zc (zd e (zj (zf e items)))).1) (w64 ((w64 (low + 1)) - ((zd e (zj (zf e items))).at_.hi))))), true)

def orders_open_o1 (e : S_Estate) (items : GS Int) : List Ora := [.pure (.sl ((zf e items).nl) (((zf e items).l).map I) (zsl ((zf e items).nl) 1) none), .pure (I (zj (zf e items))), .pure (.agg [I ((zd e (zj (zf e items))).at_.lo), I ((zd e (zj (zf e items))).at_.hi), I ((zd e (zj (zf e items))).room_), I ((zd e (zj (zf e items))).whole_.lo), I ((zd e (zj (zf e items))).whole_.hi)]), .pure (.tup [I ((zc (zd e (zj (zf e items)))).1), I ((zc (zd e (zj (zf e items)))).2)])]

def orders_open_o2 (e : S_Estate) (items : GS Int) (low : Int) : List Ora := [.dec false, .pure (.agg [I ((zl (zd e (zj (zf e items))) (yd ((zc (zd e (zj (zf e items)))).1) (w64 ((w64 (low + 1)) - ((zd e (zj (zf e items))).at_.hi))))).lo), I ((zl (zd e (zj (zf e items))) (yd ((zc (zd e (zj (zf e items)))).1) (w64 ((w64 (low + 1)) - ((zd e (zj (zf e items))).at_.hi))))).hi)])]

theorem T_orders_open (e : S_Estate) (items : GS Int) (low : Int) (high : Int) (hall : ∀ i ∈ items.l, 0 ≤ i ∧ i < ((e.items.l.length : Nat) : Int)) (hL_items : items.l.length ≤ 1099511627776) (hL_e_items : e.items.l.length ≤ 9223372036854775807) : (lim cfg).pure 78 [S_Estate.D e, GS.D I 1 items, I low, I high] = some (.tup [GS.D I 1 ((orders_open e items low high).1), B ((orders_open e items low high).2)]) := by
  unfold orders_open
  have p1 := (T_orders_gains e items (by first | assumption | omega | (exact za) | (simp only [z9] at * <;> omega) | (simp only [z5, z6, z7, z8, GS.some_l, List.length_set, List.length_append, List.length_cons, List.length_nil] at * <;> first | assumption | omega) | (simp only [z5, z6, z7, z8, GS.some_l, List.length_set, List.length_append, List.length_cons, List.length_nil, z9] at * <;> first | assumption | omega) | (simp at * <;> omega)) (by first | assumption | omega | (exact za) | (simp only [z9] at * <;> omega) | (simp only [z5, z6, z7, z8, GS.some_l, List.length_set, List.length_append, List.length_cons, List.length_nil] at * <;> first | assumption | omega) | (simp only [z5, z6, z7, z8, GS.some_l, List.length_set, List.length_append, List.length_cons, List.length_nil, z9] at * <;> first | assumption | omega) | (simp at * <;> omega)))
  have p2 := (T_orders_total (zf e items) (by first | assumption | omega | (exact za) | (simp only [z9] at * <;> omega) | (simp only [z5, z6, z7, z8, GS.some_l, List.length_set, List.length_append, List.length_cons, List.length_nil] at * <;> first | assumption | omega) | (simp only [z5, z6, z7, z8, GS.some_l, List.length_set, List.length_append, List.length_cons, List.length_nil, z9] at * <;> first | assumption | omega) | (simp at * <;> omega)))
  have p3 := (T_orders_windowOf e (zj (zf e items)) (by first | assumption | omega | (exact za) | (simp only [z9] at * <;> omega) | (simp only [z5, z6, z7, z8, GS.some_l, List.length_set, List.length_append, List.length_cons, List.length_nil] at * <;> first | assumption | omega) | (simp only [z5, z6, z7, z8, GS.some_l, List.length_set, List.length_append, List.length_cons, List.length_nil, z9] at * <;> first | assumption | omega) | (simp at * <;> omega)))
  have p4 := (T_orders_window_ends (zd e (zj (zf e items))))
  cases h1 : decide ((yd ((zc (zd e (zj (zf e items)))).1) (w64 ((w64 (low + 1)) - ((zd e (zj (zf e items))).at_.hi)))) > ((zc (zd e (zj (zf e items)))).2)) with
  | true =>
    have g1 := of_decide_eq_true h1
    exact zi ((orders_open_o1 e items) ++ [.dec true]) (And.intro h1 (And.intro p4 (And.intro p3 (And.intro p2 (And.intro p1 trivial))))) (by kernel_rfl)
  | false =>
    have g1 := of_decide_eq_false h1
    have p5 := (T_orders_window_seen (zd e (zj (zf e items))) (yd ((zc (zd e (zj (zf e items)))).1) (w64 ((w64 (low + 1)) - ((zd e (zj (zf e items))).at_.hi)))))
    cases h2 : decide (((zl (zd e (zj (zf e items))) (yd ((zc (zd e (zj (zf e items)))).1) (w64 ((w64 (low + 1)) - ((zd e (zj (zf e items))).at_.hi))))).lo) ≥ high) with
    | true =>
      have g2 := of_decide_eq_true h2
      exact zi ((orders_open_o1 e items) ++ ((orders_open_o2 e items low) ++ [.dec true])) (And.intro h2 (And.intro p5 (And.intro h1 (And.intro p4 (And.intro p3 (And.intro p2 (And.intro p1 trivial))))))) (by kernel_rfl)
    | false =>
      have g2 := of_decide_eq_false h2
      cases h3 : decide (((zl (zd e (zj (zf e items))) (yd ((zc (zd e (zj (zf e items)))).1) (w64 ((w64 (low + 1)) - ((zd e (zj (zf e items))).at_.hi))))).hi) ≤ low) with
      | true =>
        have g3 := of_decide_eq_true h3
        exact zi ((orders_open_o1 e items) ++ ((orders_open_o2 e items low) ++ [.dec false, .dec true])) (And.intro h3 (And.intro h2 (And.intro p5 (And.intro h1 (And.intro p4 (And.intro p3 (And.intro p2 (And.intro p1 trivial)))))))) (by kernel_rfl)
      | false =>
        have g3 := of_decide_eq_false h3
        exact zi ((orders_open_o1 e items) ++ ((orders_open_o2 e items low) ++ [.dec false, .dec false, .pure (.sl ((orders_shown e items (yd ((zc (zd e (zj (zf e items)))).1) (w64 ((w64 (low + 1)) - ((zd e (zj (zf e items))).at_.hi))))).nl) (((orders_shown e items (yd ((zc (zd e (zj (zf e items)))).1) (w64 ((w64 (low + 1)) - ((zd e (zj (zf e items))).at_.hi))))).l).map I) (zsl ((orders_shown e items (yd ((zc (zd e (zj (zf e items)))).1) (w64 ((w64 (low + 1)) - ((zd e (zj (zf e items))).at_.hi))))).nl) 1) none)])) (And.intro (T_orders_shown e items (yd ((zc (zd e (zj (zf e items)))).1) (w64 ((w64 (low + 1)) - ((zd e (zj (zf e items))).at_.hi)))) (by first | assumption | omega | (exact za) | (simp only [z9] at * <;> omega) | (simp only [z5, z6, z7, z8, GS.some_l, List.length_set, List.length_append, List.length_cons, List.length_nil] at * <;> first | assumption | omega) | (simp only [z5, z6, z7, z8, GS.some_l, List.length_set, List.length_append, List.length_cons, List.length_nil, z9] at * <;> first | assumption | omega) | (simp at * <;> omega)) (by first | assumption | omega | (exact za) | (simp only [z9] at * <;> omega) | (simp only [z5, z6, z7, z8, GS.some_l, List.length_set, List.length_append, List.length_cons, List.length_nil] at * <;> first | assumption | omega) | (simp only [z5, z6, z7, z8, GS.some_l, List.length_set, List.length_append, List.length_cons, List.length_nil, z9] at * <;> first | assumption | omega) | (simp at * <;> omega))) (And.intro h3 (And.intro h2 (And.intro p5 (And.intro h1 (And.intro p4 (And.intro p3 (And.intro p2 (And.intro p1 trivial))))))))) (by kernel_rfl)

def orders_bounds (e : S_Estate) (items : GS Int) (low : Int) (high : Int) : Int :=
  bif ((zC e items) != 0) then
    (zC e items)
  else
    bif decide (low ≥ high) then
      1
    else
      bif decide (low < (-1099511627776)) then
        1
      else
        bif decide (high > 1099511627776) then
          1
        else
          0

theorem T_orders_bounds (e : S_Estate) (items : GS Int) (low : Int) (high : Int) (hL : items.l.length ≤ 9223372036854775807) : (lim cfg).pure 77 [S_Estate.D e, GS.D I 1 items, I low, I high] = some (I (orders_bounds e items low high)) := by
  unfold orders_bounds
  cases h1 : ((zC e items) != 0) with
  | true =>
    have g1 := zY h1
    exact zi [.pure (I (zC e items)), .dec true] (And.intro h1 (And.intro (y8 e items (by first | assumption | omega | (exact za) | (simp only [z9] at * <;> omega) | (simp only [z5, z6, z7, z8, GS.some_l, List.length_set, List.length_append, List.length_cons, List.length_nil] at * <;> first | assumption | omega) | (simp only [z5, z6, z7, z8, GS.some_l, List.length_set, List.length_append, List.length_cons, List.length_nil, z9] at * <;> first | assumption | omega) | (simp at * <;> omega))) trivial)) (by kernel_rfl)
  | false =>
    obtain ⟨g1, gb1⟩ := And.intro (right_ok (by assumption) (zI h1)) (right_all (by assumption) (zI h1))
    cases h2 : decide (low ≥ high) with
    | true =>
      have g2 := of_decide_eq_true h2
      exact zi [.pure (I (zC e items)), .dec false, .dec true] (And.intro h2 (And.intro h1 (And.intro (y8 e items (by first | assumption | omega | (exact za) | (simp only [z9] at * <;> omega) | (simp only [z5, z6, z7, z8, GS.some_l, List.length_set, List.length_append, List.length_cons, List.length_nil] at * <;> first | assumption | omega) | (simp only [z5, z6, z7, z8, GS.some_l, List.length_set, List.length_append, List.length_cons, List.length_nil, z9] at * <;> first | assumption | omega) | (simp at * <;> omega))) trivial))) (by kernel_rfl)
    | false =>
      have g2 := of_decide_eq_false h2
      cases h3 : decide (low < (-1099511627776)) with
      | true =>
        have g3 := of_decide_eq_true h3
        exact zi [.pure (I (zC e items)), .dec false, .dec false, .dec true] (And.intro h3 (And.intro h2 (And.intro h1 (And.intro (y8 e items (by first | assumption | omega | (exact za) | (simp only [z9] at * <;> omega) | (simp only [z5, z6, z7, z8, GS.some_l, List.length_set, List.length_append, List.length_cons, List.length_nil] at * <;> first | assumption | omega) | (simp only [z5, z6, z7, z8, GS.some_l, List.length_set, List.length_append, List.length_cons, List.length_nil, z9] at * <;> first | assumption | omega) | (simp at * <;> omega))) trivial)))) (by kernel_rfl)
      | false =>
        have g3 := of_decide_eq_false h3
        cases h4 : decide (high > 1099511627776) with
        | true =>
          have g4 := of_decide_eq_true h4
          exact zi [.pure (I (zC e items)), .dec false, .dec false, .dec false, .dec true] (And.intro h4 (And.intro h3 (And.intro h2 (And.intro h1 (And.intro (y8 e items (by first | assumption | omega | (exact za) | (simp only [z9] at * <;> omega) | (simp only [z5, z6, z7, z8, GS.some_l, List.length_set, List.length_append, List.length_cons, List.length_nil] at * <;> first | assumption | omega) | (simp only [z5, z6, z7, z8, GS.some_l, List.length_set, List.length_append, List.length_cons, List.length_nil, z9] at * <;> first | assumption | omega) | (simp at * <;> omega))) trivial))))) (by kernel_rfl)
        | false =>
          have g4 := of_decide_eq_false h4
          exact zi [.pure (I (zC e items)), .dec false, .dec false, .dec false, .dec false] (And.intro h4 (And.intro h3 (And.intro h2 (And.intro h1 (And.intro (y8 e items (by first | assumption | omega | (exact za) | (simp only [z9] at * <;> omega) | (simp only [z5, z6, z7, z8, GS.some_l, List.length_set, List.length_append, List.length_cons, List.length_nil] at * <;> first | assumption | omega) | (simp only [z5, z6, z7, z8, GS.some_l, List.length_set, List.length_append, List.length_cons, List.length_nil, z9] at * <;> first | assumption | omega) | (simp at * <;> omega))) trivial))))) (by kernel_rfl)

theorem bounds_iff {e : S_Estate} {items : GS Int} {low high : Int} : orders_bounds e items low high = 0 ↔ zC e items = 0 ∧ low < high ∧ -1099511627776 ≤ low ∧ high ≤ 1099511627776 := by
  unfold orders_bounds
  cases h : (zC e items != 0) with
  | true =>
    have := zY h
    simp only [cond_true]
    exact ⟨fun h => absurd h this, fun h => h.1⟩
  | false =>
    have h' := zI h
    simp only [cond_false, Bool.cond_decide]
    split
    · simp; omega
    · split
      · simp; omega
      · split
        · simp; omega
        · simp; omega

def orders_Open (e : S_Estate) (items : GS Int) (low : Int) (high : Int) : (GS Int) × Bool × Int :=
  bif ((orders_bounds e items low high) != 0) then
    (GS.nil, false, (orders_bounds e items low high))
  else
    bif ((orders_open e items low high).2) then
      (((orders_open e items low high).1), true, 0)
    else
      (((orders_open e items low high).1), false, 0)

def orders_Open_o1 (e : S_Estate) (items : GS Int) (low : Int) (high : Int) : List Ora := [.pure (I (orders_bounds e items low high)), .dec false, .pure (.tup [.sl (((orders_open e items low high).1).nl) ((((orders_open e items low high).1).l).map I) (zsl (((orders_open e items low high).1).nl) 1) none, B ((orders_open e items low high).2)])]

theorem T_orders_Open (e : S_Estate) (items : GS Int) (low : Int) (high : Int) (hL : items.l.length ≤ 9223372036854775807) : (lim cfg).pure 35 [S_Estate.D e, GS.D I 1 items, I low, I high] = some (.tup [GS.D I 1 ((orders_Open e items low high).1), B ((orders_Open e items low high).2.1), I ((orders_Open e items low high).2.2)]) := by
  unfold orders_Open
  have p1 := (T_orders_bounds e items low high (by first | assumption | omega | (exact za) | (simp only [z9] at * <;> omega) | (simp only [z5, z6, z7, z8, GS.some_l, List.length_set, List.length_append, List.length_cons, List.length_nil] at * <;> first | assumption | omega) | (simp only [z5, z6, z7, z8, GS.some_l, List.length_set, List.length_append, List.length_cons, List.length_nil, z9] at * <;> first | assumption | omega) | (simp at * <;> omega)))
  cases h1 : ((orders_bounds e items low high) != 0) with
  | true =>
    have g1 := zY h1
    exact zi [.pure (I (orders_bounds e items low high)), .dec true] (And.intro h1 (And.intro p1 trivial)) (by kernel_rfl)
  | false =>
    obtain ⟨g1, gb1⟩ := And.intro (right_ok (by assumption) (bounds_iff.1 (zI h1)).1) (right_all (by assumption) (bounds_iff.1 (zI h1)).1)
    have p2 := (T_orders_open e items low high (by first | assumption | omega | (exact za) | (simp only [z9] at * <;> omega) | (simp only [z5, z6, z7, z8, GS.some_l, List.length_set, List.length_append, List.length_cons, List.length_nil] at * <;> first | assumption | omega) | (simp only [z5, z6, z7, z8, GS.some_l, List.length_set, List.length_append, List.length_cons, List.length_nil, z9] at * <;> first | assumption | omega) | (simp at * <;> omega)) (by first | assumption | omega | (exact za) | (simp only [z9] at * <;> omega) | (simp only [z5, z6, z7, z8, GS.some_l, List.length_set, List.length_append, List.length_cons, List.length_nil] at * <;> first | assumption | omega) | (simp only [z5, z6, z7, z8, GS.some_l, List.length_set, List.length_append, List.length_cons, List.length_nil, z9] at * <;> first | assumption | omega) | (simp at * <;> omega)) (by first | assumption | omega | (exact za) | (simp only [z9] at * <;> omega) | (simp only [z5, z6, z7, z8, GS.some_l, List.length_set, List.length_append, List.length_cons, List.length_nil] at * <;> first | assumption | omega) | (simp only [z5, z6, z7, z8, GS.some_l, List.length_set, List.length_append, List.length_cons, List.length_nil, z9] at * <;> first | assumption | omega) | (simp at * <;> omega)))
    cases h2 : ((orders_open e items low high).2) with
    | true =>
      exact zi ((orders_Open_o1 e items low high) ++ [.dec true]) (And.intro h2 (And.intro p2 (And.intro h1 (And.intro p1 trivial)))) (by kernel_rfl)
    | false =>
      exact zi ((orders_Open_o1 e items low high) ++ [.dec false]) (And.intro h2 (And.intro p2 (And.intro h1 (And.intro p1 trivial)))) (by kernel_rfl)

def orders_Decides (e : S_Estate) (items : GS Int) (low : Int) (high : Int) : Bool × Int :=
  bif ((orders_bounds e items low high) != 0) then
    (false, (orders_bounds e items low high))
  else
    bif ((orders_open e items low high).2) then
      (false, 0)
    else
      (true, 0)

def orders_Decides_o1 (e : S_Estate) (items : GS Int) (low : Int) (high : Int) : List Ora := [.pure (I (orders_bounds e items low high)), .dec false, .pure (.tup [.sl (((orders_open e items low high).1).nl) ((((orders_open e items low high).1).l).map I) (zsl (((orders_open e items low high).1).nl) 1) none, B ((orders_open e items low high).2)])]

theorem T_orders_Decides (e : S_Estate) (items : GS Int) (low : Int) (high : Int) (hL : items.l.length ≤ 9223372036854775807) : (lim cfg).pure 34 [S_Estate.D e, GS.D I 1 items, I low, I high] = some (.tup [B ((orders_Decides e items low high).1), I ((orders_Decides e items low high).2)]) := by
  unfold orders_Decides
  have p1 := (T_orders_bounds e items low high (by first | assumption | omega | (exact za) | (simp only [z9] at * <;> omega) | (simp only [z5, z6, z7, z8, GS.some_l, List.length_set, List.length_append, List.length_cons, List.length_nil] at * <;> first | assumption | omega) | (simp only [z5, z6, z7, z8, GS.some_l, List.length_set, List.length_append, List.length_cons, List.length_nil, z9] at * <;> first | assumption | omega) | (simp at * <;> omega)))
  cases h1 : ((orders_bounds e items low high) != 0) with
  | true =>
    have g1 := zY h1
    exact zi [.pure (I (orders_bounds e items low high)), .dec true] (And.intro h1 (And.intro p1 trivial)) (by kernel_rfl)
  | false =>
    obtain ⟨g1, gb1⟩ := And.intro (right_ok (by assumption) (bounds_iff.1 (zI h1)).1) (right_all (by assumption) (bounds_iff.1 (zI h1)).1)
    have p2 := (T_orders_open e items low high (by first | assumption | omega | (exact za) | (simp only [z9] at * <;> omega) | (simp only [z5, z6, z7, z8, GS.some_l, List.length_set, List.length_append, List.length_cons, List.length_nil] at * <;> first | assumption | omega) | (simp only [z5, z6, z7, z8, GS.some_l, List.length_set, List.length_append, List.length_cons, List.length_nil, z9] at * <;> first | assumption | omega) | (simp at * <;> omega)) (by first | assumption | omega | (exact za) | (simp only [z9] at * <;> omega) | (simp only [z5, z6, z7, z8, GS.some_l, List.length_set, List.length_append, List.length_cons, List.length_nil] at * <;> first | assumption | omega) | (simp only [z5, z6, z7, z8, GS.some_l, List.length_set, List.length_append, List.length_cons, List.length_nil, z9] at * <;> first | assumption | omega) | (simp at * <;> omega)) (by first | assumption | omega | (exact za) | (simp only [z9] at * <;> omega) | (simp only [z5, z6, z7, z8, GS.some_l, List.length_set, List.length_append, List.length_cons, List.length_nil] at * <;> first | assumption | omega) | (simp only [z5, z6, z7, z8, GS.some_l, List.length_set, List.length_append, List.length_cons, List.length_nil, z9] at * <;> first | assumption | omega) | (simp at * <;> omega)))
    cases h2 : ((orders_open e items low high).2) with
    | true =>
      exact zi ((orders_Decides_o1 e items low high) ++ [.dec true]) (And.intro h2 (And.intro p2 (And.intro h1 (And.intro p1 trivial)))) (by kernel_rfl)
    | false =>
      exact zi ((orders_Decides_o1 e items low high) ++ [.dec false]) (And.intro h2 (And.intro p2 (And.intro h1 (And.intro p1 trivial)))) (by kernel_rfl)
end Go.VS
namespace Go.VS
open Go Go.Proofs
set_option maxHeartbeats 0
set_option linter.unusedSimpArgs false
set_option linter.unusedVariables false
noncomputable def lp22_8 : Code := subC [1, 1, 1, 1, 1, 0, 0, 0] (bodyC Try.f22)

inductive LR_orders_Need_8 where
  | x0 (v8_0 : Int) (v8_1 : Int)
  | out
instance : Inhabited LR_orders_Need_8 := ⟨.out⟩
def orders_Need_8 (e : S_Estate) (width : Int) : Nat → Int → Int → LR_orders_Need_8
  | 0, _, _ => .out
  | rest8 + 1, v8_0, v8_1 =>
    bif decide (v8_0 < v8_1) then
      bif decide (((zD (zd e (w64 ((w64 (v8_0 + v8_1)).tdiv 2)))).1) ≤ width) then
        orders_Need_8 e width rest8 v8_0 (w64 ((w64 (v8_0 + v8_1)).tdiv 2))
      else
        orders_Need_8 e width rest8 (w64 ((w64 ((w64 (v8_0 + v8_1)).tdiv 2)) + 1)) v8_1
    else
      .x0 v8_0 v8_1
def lr_orders_Need_8 (e : S_Estate) (width : Int) : LR_orders_Need_8 → Exit × St
  | .x0 v8_0 v8_1 => ((.exit 0), ⟨58, [(30, B false), (29, I v8_1), (28, I v8_0), (1, I width), (2, .lref 0 0 3 0), (9, I v8_0), (10, I v8_1)], [(0, ⟨[.agg [.sl e.items.nl (e.items.l.map S_Item.D) (zsl e.items.nl 4) none, I e.whole.lo, I e.whole.hi]], 3, false⟩)], 1, 0⟩)
  | .out => (.normal, ⟨0, [], [], 0, 0⟩)
def orders_Need_8_f_o1 (e : S_Estate) (v8_0 : Int) (v8_1 : Int) : List Ora := [.dec true, .pure (.agg [I ((zd e (w64 ((w64 (v8_0 + v8_1)).tdiv 2))).at_.lo), I ((zd e (w64 ((w64 (v8_0 + v8_1)).tdiv 2))).at_.hi), I ((zd e (w64 ((w64 (v8_0 + v8_1)).tdiv 2))).room_), I ((zd e (w64 ((w64 (v8_0 + v8_1)).tdiv 2))).whole_.lo), I ((zd e (w64 ((w64 (v8_0 + v8_1)).tdiv 2))).whole_.hi)]), .pure (.tup [I ((zD (zd e (w64 ((w64 (v8_0 + v8_1)).tdiv 2)))).1), I ((zD (zd e (w64 ((w64 (v8_0 + v8_1)).tdiv 2)))).2)])]
theorem lp_orders_Need_8 (e : S_Estate) (width : Int) : ∀ (rest8 : Nat) (v8_0 : Int) (v8_1 : Int) (hf8 : orders_Need_8 e width rest8 v8_0 v8_1 ≠ .out) (hn : e.items.l.length ≤ 9223372036854775807), (lim cfg).loop 22 lp22_8 ⟨58, [(1, I width), (2, .lref 0 0 3 0), (9, I v8_0), (10, I v8_1)], [(0, ⟨[.agg [.sl e.items.nl (e.items.l.map S_Item.D) (zsl e.items.nl 4) none, I e.whole.lo, I e.whole.hi]], 3, false⟩)], 1, 0⟩ = some (lr_orders_Need_8 e width (orders_Need_8 e width rest8 v8_0 v8_1)) := by
  intro rest8
  induction rest8 with
  | zero =>
    intro v8_0 v8_1 hf8 hn
    exact absurd rfl hf8
  | succ rest8 ih =>
    intro v8_0 v8_1 hf8 hn
    unfold orders_Need_8 at hf8 ⊢
    revert hf8
    cases h5 : decide (v8_0 < v8_1) with
    | true =>
      have g5 := of_decide_eq_true h5
      have p1 := (T_orders_windowOf e (w64 ((w64 (v8_0 + v8_1)).tdiv 2)) (by first | assumption | omega | (exact za) | (simp only [z9] at * <;> omega) | (simp only [z5, z6, z7, z8, GS.some_l, List.length_set, List.length_append, List.length_cons, List.length_nil] at * <;> first | assumption | omega) | (simp only [z5, z6, z7, z8, GS.some_l, List.length_set, List.length_append, List.length_cons, List.length_nil, z9] at * <;> first | assumption | omega) | (simp at * <;> omega)))
      have p2 := (T_orders_window_widest (zd e (w64 ((w64 (v8_0 + v8_1)).tdiv 2))))
      cases h6 : decide (((zD (zd e (w64 ((w64 (v8_0 + v8_1)).tdiv 2)))).1) ≤ width) with
      | true =>
        have g6 := of_decide_eq_true h6
        intro hf8
        exact po_turn ((orders_Need_8_f_o1 e v8_0 v8_1) ++ [.dec true]) (And.intro h6 (And.intro p2 (And.intro p1 (And.intro h5 trivial)))) (ih v8_0 (w64 ((w64 (v8_0 + v8_1)).tdiv 2)) hf8 (by first | assumption | omega | (exact za) | (simp only [z9] at * <;> omega) | (simp only [z5, z6, z7, z8, GS.some_l, List.length_set, List.length_append, List.length_cons, List.length_nil] at * <;> first | assumption | omega) | (simp only [z5, z6, z7, z8, GS.some_l, List.length_set, List.length_append, List.length_cons, List.length_nil, z9] at * <;> first | assumption | omega) | (simp at * <;> omega))) (by kernel_rfl)
      | false =>
        have g6 := of_decide_eq_false h6
        intro hf8
        exact po_turn ((orders_Need_8_f_o1 e v8_0 v8_1) ++ [.dec false]) (And.intro h6 (And.intro p2 (And.intro p1 (And.intro h5 trivial)))) (ih (w64 ((w64 ((w64 (v8_0 + v8_1)).tdiv 2)) + 1)) v8_1 hf8 (by first | assumption | omega | (exact za) | (simp only [z9] at * <;> omega) | (simp only [z5, z6, z7, z8, GS.some_l, List.length_set, List.length_append, List.length_cons, List.length_nil] at * <;> first | assumption | omega) | (simp only [z5, z6, z7, z8, GS.some_l, List.length_set, List.length_append, List.length_cons, List.length_nil, z9] at * <;> first | assumption | omega) | (simp at * <;> omega))) (by kernel_rfl)
    | false =>
      have g5 := of_decide_eq_false h5
      intro hf8
      exact zP [.dec false] (And.intro h5 trivial) (by kernel_rfl)

theorem need_ne (e : S_Estate) (width : Int) : ∀ (n : Nat) (lo hi : Int), 0 ≤ lo → hi ≤ 2305843009213693952 → (hi - lo).toNat < n → orders_Need_8 e width n lo hi ≠ .out
  | 0, _, _, _, _, h => by omega
  | n + 1, lo, hi, h0, h1, h => by
    unfold orders_Need_8
    cases h2 : decide (lo < hi) with
    | false => simp
    | true =>
      have := of_decide_eq_true h2
      simp only [cond_true]
      have e1 : w64 (lo + hi) = lo + hi := zX (by omega) (by omega)
      have e2 : w64 ((lo + hi).tdiv 2) = (lo + hi).tdiv 2 := zX (by rw [Int.tdiv_eq_ediv_of_nonneg (by omega)]; omega) (by rw [Int.tdiv_eq_ediv_of_nonneg (by omega)]; omega)
      have e3 : w64 ((lo + hi).tdiv 2 + 1) = (lo + hi).tdiv 2 + 1 := zX (by rw [Int.tdiv_eq_ediv_of_nonneg (by omega)]; omega) (by rw [Int.tdiv_eq_ediv_of_nonneg (by omega)]; omega)
      rw [e1, e2, e3]
      rw [Int.tdiv_eq_ediv_of_nonneg (by omega)]
      cases decide ((zD (zd e ((lo + hi) / 2))).1 ≤ width) with
      | true => exact need_ne e width n _ _ h0 (by omega) (by omega)
      | false => exact need_ne e width n _ _ (by omega) h1 (by omega)
theorem need_ne' {e : S_Estate} {width : Int} (h : (zw e != 0) = false) : orders_Need_8 e width ((w64 ((zm e).hi - (zm e).lo) - 0).toNat + 1) 0 (w64 ((zm e).hi - (zm e).lo)) ≠ .out := by
  have hV := check_iff.1 (zI h)
  have hb := sums_bd hV.sp
  have := hV.n2
  rw [all_eq hV.sp hV.n2]
  simp only []
  rw [zX (by omega) (by omega)]
  exact need_ne e width _ _ _ (by omega) (by omega) (by omega)

def zz (e : S_Estate) (width : Int) : Int × Bool × Int :=
  bif ((zw e) != 0) then
    (0, false, (zw e))
  else
    bif decide (width < 0) then
      (0, false, 1)
    else
      match orders_Need_8 e width ((w64 (((zm e).hi) - ((zm e).lo)) - 0).toNat + 1) 0 (w64 (((zm e).hi) - ((zm e).lo))) with
      | .x0 v8_0 v8_1 =>
        bif decide ((zj (zf e (zF ((e.items.l.length : Nat) : Int)))) ≥ v8_0) then
          (v8_0, true, 0)
        else
          (v8_0, false, 0)
      | .out =>
        default

def sd86 (e : S_Estate) (width : Int) (v8_0 : Int) (v8_1 : Int) : St := ⟨58, [(30, B false), (29, I v8_1), (28, I v8_0), (1, I width), (2, .lref 0 0 3 0), (9, I v8_0), (10, I v8_1)], [(0, ⟨[.agg [.sl e.items.nl (e.items.l.map S_Item.D) (zsl e.items.nl 4) none, I e.whole.lo, I e.whole.hi]], 3, false⟩)], 1, 0⟩

def orders_Need_o1 (e : S_Estate) (width : Int) (v8_0 : Int) (v8_1 : Int) : List Ora := [.pure (I (zw e)), .dec false, .dec false, .pure (.agg [I ((zm e).lo), I ((zm e).hi)]), .loop (.exit 0) (sd86 e width v8_0 v8_1), .rw 52 (I ((e.items.l.length : Nat) : Int)), .pure (.sl ((zF ((e.items.l.length : Nat) : Int)).nl) (((zF ((e.items.l.length : Nat) : Int)).l).map I) (zsl ((zF ((e.items.l.length : Nat) : Int)).nl) 1) none), .pure (.sl ((zf e (zF ((e.items.l.length : Nat) : Int))).nl) (((zf e (zF ((e.items.l.length : Nat) : Int))).l).map I) (zsl ((zf e (zF ((e.items.l.length : Nat) : Int))).nl) 1) none), .pure (I (zj (zf e (zF ((e.items.l.length : Nat) : Int)))))]

theorem zS (e : S_Estate) (width : Int) (hL_e_items : e.items.l.length ≤ 9223372036854775807) : (lim cfg).pure 22 [S_Estate.D e, I width] = some (.tup [I ((zz e width).1), B ((zz e width).2.1), I ((zz e width).2.2)]) := by
  unfold zz
  cases h1 : ((zw e) != 0) with
  | true =>
    have g1 := zY h1
    exact zi [.pure (I (zw e)), .dec true] (And.intro h1 (And.intro (zU e) trivial)) (by kernel_rfl)
  | false =>
    have g1 := check_len (zI h1)
    cases h2 : decide (width < 0) with
    | true =>
      have g2 := of_decide_eq_true h2
      exact zi [.pure (I (zw e)), .dec false, .dec true] (And.intro h2 (And.intro h1 (And.intro (zU e) trivial))) (by kernel_rfl)
    | false =>
      have g2 := of_decide_eq_false h2
      cases h7 : orders_Need_8 e width ((w64 (((zm e).hi) - ((zm e).lo)) - 0).toNat + 1) 0 (w64 (((zm e).hi) - ((zm e).lo))) with
      | x0 v8_0 v8_1 =>
        try dsimp only
        have p1 := (po_lr (q := lr_orders_Need_8 e width) (lp_orders_Need_8 e width ((w64 (((zm e).hi) - ((zm e).lo)) - 0).toNat + 1) 0 (w64 (((zm e).hi) - ((zm e).lo))) (need_ne' (e := e) (width := width) (by assumption)) (by first | assumption | omega | (exact za) | (simp only [z9] at * <;> omega) | (simp only [z5, z6, z7, z8, GS.some_l, List.length_set, List.length_append, List.length_cons, List.length_nil] at * <;> first | assumption | omega) | (simp only [z5, z6, z7, z8, GS.some_l, List.length_set, List.length_append, List.length_cons, List.length_nil, z9] at * <;> first | assumption | omega) | (simp at * <;> omega))) h7)
        have p2 := (T_orders_numbers ((e.items.l.length : Nat) : Int) (by first | assumption | omega | (exact za) | (simp only [z9] at * <;> omega) | (simp only [z5, z6, z7, z8, GS.some_l, List.length_set, List.length_append, List.length_cons, List.length_nil] at * <;> first | assumption | omega) | (simp only [z5, z6, z7, z8, GS.some_l, List.length_set, List.length_append, List.length_cons, List.length_nil, z9] at * <;> first | assumption | omega) | (simp at * <;> omega)))
        have p3 := (T_orders_gains e (zF ((e.items.l.length : Nat) : Int)) (by first | assumption | omega | (exact za) | (simp only [z9] at * <;> omega) | (simp only [z5, z6, z7, z8, GS.some_l, List.length_set, List.length_append, List.length_cons, List.length_nil] at * <;> first | assumption | omega) | (simp only [z5, z6, z7, z8, GS.some_l, List.length_set, List.length_append, List.length_cons, List.length_nil, z9] at * <;> first | assumption | omega) | (simp at * <;> omega)) (by first | assumption | omega | (exact za) | (simp only [z9] at * <;> omega) | (simp only [z5, z6, z7, z8, GS.some_l, List.length_set, List.length_append, List.length_cons, List.length_nil] at * <;> first | assumption | omega) | (simp only [z5, z6, z7, z8, GS.some_l, List.length_set, List.length_append, List.length_cons, List.length_nil, z9] at * <;> first | assumption | omega) | (simp at * <;> omega)))
        have p4 := (T_orders_total (zf e (zF ((e.items.l.length : Nat) : Int))) (by first | assumption | omega | (exact za) | (simp only [z9] at * <;> omega) | (simp only [z5, z6, z7, z8, GS.some_l, List.length_set, List.length_append, List.length_cons, List.length_nil] at * <;> first | assumption | omega) | (simp only [z5, z6, z7, z8, GS.some_l, List.length_set, List.length_append, List.length_cons, List.length_nil, z9] at * <;> first | assumption | omega) | (simp at * <;> omega)))
        cases h8 : decide ((zj (zf e (zF ((e.items.l.length : Nat) : Int)))) ≥ v8_0) with
        | true =>
          have g8 := of_decide_eq_true h8
          exact zi ((orders_Need_o1 e width v8_0 v8_1) ++ [.dec true]) (And.intro h8 (And.intro p4 (And.intro p3 (And.intro p2 (And.intro (zg S_Item.D e.items) (And.intro p1 (And.intro (T_orders_all e (by first | assumption | omega | (exact za) | (simp only [z9] at * <;> omega) | (simp only [z5, z6, z7, z8, GS.some_l, List.length_set, List.length_append, List.length_cons, List.length_nil] at * <;> first | assumption | omega) | (simp only [z5, z6, z7, z8, GS.some_l, List.length_set, List.length_append, List.length_cons, List.length_nil, z9] at * <;> first | assumption | omega) | (simp at * <;> omega))) (And.intro h2 (And.intro h1 (And.intro (zU e) trivial)))))))))) (by kernel_rfl)
        | false =>
          have g8 := of_decide_eq_false h8
          exact zi ((orders_Need_o1 e width v8_0 v8_1) ++ [.dec false]) (And.intro h8 (And.intro p4 (And.intro p3 (And.intro p2 (And.intro (zg S_Item.D e.items) (And.intro p1 (And.intro (T_orders_all e (by first | assumption | omega | (exact za) | (simp only [z9] at * <;> omega) | (simp only [z5, z6, z7, z8, GS.some_l, List.length_set, List.length_append, List.length_cons, List.length_nil] at * <;> first | assumption | omega) | (simp only [z5, z6, z7, z8, GS.some_l, List.length_set, List.length_append, List.length_cons, List.length_nil, z9] at * <;> first | assumption | omega) | (simp at * <;> omega))) (And.intro h2 (And.intro h1 (And.intro (zU e) trivial)))))))))) (by kernel_rfl)
      | out =>
        exact absurd h7 (need_ne' (e := e) (width := width) (by assumption))
end Go.VS
/-
  Orders: sorting few numbers; the widest span that is left. (A text of this claim's own; nothing of it is trusted.)
-/
namespace Go.VS
/-! ### sorting -/
theorem less_eq (a b : Int) : cmp_Less a b = decide (a < b) := by
  unfold cmp_Less cmp_isNaN
  simp only [bne_self_eq_false, cond_false]
  cases decide (a < b) <;> rfl
def insr (x : Int) : List Int → List Int
  | [] => [x]
  | y :: l => if x < y then y :: insr x l else x :: y :: l
theorem insr_perm (x : Int) : ∀ l, List.Perm (insr x l) (x :: l)
  | [] => List.Perm.refl _
  | y :: l => by
    unfold insr
    split
    · exact ((insr_perm x l).cons y).trans (List.Perm.swap x y l)
    · exact List.Perm.refl _
theorem insr_sorted (x : Int) : ∀ {l : List Int}, l.Pairwise (· ≥ ·) → (insr x l).Pairwise (· ≥ ·)
  | [], _ => by simp [insr]
  | y :: l, h => by
    unfold insr
    have h' := List.pairwise_cons.1 h
    split
    · refine List.pairwise_cons.2 ⟨fun z hz => ?_, insr_sorted x h'.2⟩
      rcases List.mem_cons.1 ((insr_perm x l).mem_iff.1 hz) with rfl | hz
      · omega
      · exact h'.1 z hz
    · refine List.pairwise_cons.2 ⟨fun z hz => ?_, h⟩
      rcases List.mem_cons.1 hz with rfl | hz
      · omega
      · have := h'.1 z hz; omega
theorem insr_len (x : Int) (l : List Int) : (insr x l).length = l.length + 1 := by rw [(insr_perm x l).length_eq, List.length_cons]
theorem ins4 : ∀ (R : List Int) (x : Int) (B : List Int) (n : Nat), R.length < n → R.length ≤ 1000 →
    ∃ j, isort4_4 n (R.length : Int) (R.reverse ++ x :: B) = .x0 j ((insr x R).reverse ++ B) ∨ isort4_4 n (R.length : Int) (R.reverse ++ x :: B) = .x1 j ((insr x R).reverse ++ B)
  | _, _, _, 0, h, _ => by omega
  | [], x, B, n + 1, _, _ => ⟨0, .inr (by simp [isort4_4, insr])⟩
  | y :: R, x, B, n + 1, h, hb => by
    simp only [List.length_cons] at h hb
    have e0 : decide ((((y :: R).length : Nat) : Int) > 0) = true := decide_eq_true (by simp only [List.length_cons]; omega)
    have e1 : w64 ((((y :: R).length : Nat) : Int) - 1) = (R.length : Int) := by simp only [List.length_cons]; rw [zX (by omega) (by omega)]; omega
    have e2 : ((y :: R).reverse ++ x :: B) = R.reverse ++ y :: x :: B := by simp
    have g1 : (R.reverse ++ y :: x :: B).getD (((y :: R).length : Nat) : Int).toNat default = x := by
      simp only [List.length_cons, Int.toNat_natCast]
      rw [List.getD_eq_getElem?_getD, List.getElem?_append_right (by simp)]
      simp
    have g2 : (R.reverse ++ y :: x :: B).getD (R.length : Int).toNat default = y := by
      simp only [Int.toNat_natCast]
      rw [List.getD_eq_getElem?_getD, List.getElem?_append_right (by simp)]
      simp
    have g3 : ((R.reverse ++ y :: x :: B).set (((y :: R).length : Nat) : Int).toNat y).set (R.length : Int).toNat x = R.reverse ++ x :: y :: B := by
      simp only [List.length_cons, Int.toNat_natCast]
      rw [List.set_append_right _ _ (by simp)]
      simp only [List.length_reverse, Nat.add_sub_cancel_left]
      rw [List.set_append_right _ _ (by simp)]
      simp
    unfold isort4_4
    rw [e0, e1, e2, g1, g2, g3, less_eq]
    simp only [cond_true]
    by_cases hxy : x < y
    · rw [decide_eq_true hxy]
      simp only [cond_true]
      obtain ⟨j, hj⟩ := ins4 R x (y :: B) n (by omega) (by omega)
      refine ⟨j, ?_⟩
      have e3 : (insr x (y :: R)).reverse ++ B = (insr x R).reverse ++ y :: B := by
        rw [insr, if_pos hxy]; simp
      rw [e3]
      exact hj
    · rw [decide_eq_false hxy]
      simp only [cond_false]
      refine ⟨(((y :: R).length : Nat) : Int), .inl ?_⟩
      have e3 : (insr x (y :: R)).reverse ++ B = R.reverse ++ y :: x :: B := by
        rw [insr, if_neg hxy]; simp
      rw [e3]
theorem ins1 : ∀ (B R : List Int) (n : Nat), n = B.length → R.length + B.length ≤ 1000 → ∃ i, isort4_1 n R.length (R.reverse ++ B) = .x0 i (B.foldl (fun S x => insr x S) R).reverse
  | [], R, n, h, _ => by subst h; exact ⟨R.length, by simp [isort4_1]⟩
  | x :: B, R, n, h, hb => by
    subst h
    simp only [List.length_cons] at hb
    simp only [List.length_cons, List.foldl_cons]
    unfold isort4_1
    obtain ⟨i, hi⟩ := ins1 B (insr x R) B.length rfl (by rw [insr_len]; omega)
    rw [insr_len] at hi
    obtain ⟨j, hj⟩ := ins4 R x B (R.length + 1) (by omega) (by omega)
    refine ⟨i, ?_⟩
    rcases hj with hj | hj <;> rw [hj] <;> exact hi
def srt (l : List Int) : List Int := (l.foldl (fun S x => insr x S) []).reverse
theorem isort_eq {l : List Int} (h : l.length ≤ 1000) : isort4 l = srt l := by
  unfold isort4 srt
  cases l with
  | nil => rfl
  | cons x l =>
    simp only [List.length_cons] at h
    obtain ⟨i, hi⟩ := ins1 l [x] l.length rfl (by simp; omega)
    have e : (((((x :: l).length : Nat) : Int)) - 1).toNat = l.length := by simp
    rw [e]
    have e2 : isort4_1 l.length 1 (x :: l) = .x0 i (l.foldl (fun S x => insr x S) [x]).reverse := hi
    rw [e2]
    rfl
theorem fold_perm : ∀ (l S : List Int), List.Perm (l.foldl (fun S x => insr x S) S) (l ++ S)
  | [], S => List.Perm.refl _
  | x :: l, S => (fold_perm l (insr x S)).trans (((insr_perm x S).append_left l).trans (List.perm_middle))
theorem fold_sorted : ∀ (l : List Int) {S : List Int}, S.Pairwise (· ≥ ·) → (l.foldl (fun S x => insr x S) S).Pairwise (· ≥ ·)
  | [], _, h => h
  | x :: l, _, h => fold_sorted l (insr_sorted x h)
theorem srt_perm (l : List Int) : List.Perm (srt l) l := by
  have := fold_perm l []
  rw [List.append_nil] at this
  exact (List.reverse_perm _).trans this
theorem srt_sorted (l : List Int) : (srt l).Pairwise (· ≤ ·) := by
  unfold srt
  rw [List.pairwise_reverse]
  exact fold_sorted l List.Pairwise.nil
/-! ### the widest -/
/-- Where the first greatest one is. -/
theorem wide6 {w : S_window} {f : Int → Int} : ∀ (l : List Int) (b p m s0 : Int), (∀ s ∈ l, w64 ((zl w s).hi - (zl w s).lo) = f s) → l.Pairwise (· ≤ ·) → b < m → (∀ s ∈ l, f s ≤ m) → s0 ∈ l → f s0 = m → (∀ s ∈ l, f s = m → s0 ≤ s) →
    zV w l b p = .x0 m s0
  | [], _, _, _, _, _, _, _, _, h, _, _ => by cases h
  | x :: l, b, p, m, s0, hf, hs, hb, hm, h0, h1, h2 => by
    have hs' := List.pairwise_cons.1 hs
    have hx := hm x List.mem_cons_self
    unfold zV
    rw [hf x List.mem_cons_self]
    by_cases he : f x = m
    · have h3 := h2 x List.mem_cons_self he
      have h4 : s0 = x := by
        rcases List.mem_cons.1 h0 with h | h
        · exact h
        · have := hs'.1 s0 h; omega
      subst h4
      rw [decide_eq_true (by omega : f s0 > b)]
      simp only [cond_true]
      rw [h1]
      have key : ∀ (l : List Int), (∀ s ∈ l, w64 ((zl w s).hi - (zl w s).lo) = f s) → (∀ s ∈ l, f s ≤ m) → zV w l m s0 = .x0 m s0 := by
        intro l
        induction l with
        | nil => intro _ _; rfl
        | cons y l ih =>
          intro hf hm
          unfold zV
          rw [hf y List.mem_cons_self, decide_eq_false (by have := hm y List.mem_cons_self; omega : ¬ f y > m)]
          exact ih (fun s hs => hf s (List.mem_cons_of_mem _ hs)) (fun s hs => hm s (List.mem_cons_of_mem _ hs))
      exact key l (fun s hs => hf s (List.mem_cons_of_mem _ hs)) (fun s hs => hm s (List.mem_cons_of_mem _ hs))
    · have h4 : s0 ∈ l := by
        rcases List.mem_cons.1 h0 with h | h
        · subst h; exact absurd h1 he
        · exact h
      cases decide (f x > b) with
      | true => exact wide6 l _ _ m s0 (fun s hs => hf s (List.mem_cons_of_mem _ hs)) hs'.2 (by omega) (fun s hs => hm s (List.mem_cons_of_mem _ hs)) h4 h1 (fun s hs => h2 s (List.mem_cons_of_mem _ hs))
      | false => exact wide6 l _ _ m s0 (fun s hs => hf s (List.mem_cons_of_mem _ hs)) hs'.2 hb (fun s hs => hm s (List.mem_cons_of_mem _ hs)) h4 h1 (fun s hs => h2 s (List.mem_cons_of_mem _ hs))
/-- A window's numbers are not out of bounds. -/
structure Wk (w : S_window) : Prop where
  l0 : 0 ≤ w.at_.lo
  l1 : w.at_.lo ≤ w.at_.hi
  l2 : w.at_.hi + w.room_ ≤ 12884901888
  r0 : 0 ≤ w.room_
  w0 : 0 ≤ w.whole_.lo
  w1 : w.whole_.lo ≤ w.whole_.hi
  w2 : w.whole_.hi ≤ 17179869184
  m0 : w.at_.lo ≤ w.whole_.hi
  m1 : w.whole_.lo ≤ w.at_.hi + w.room_
def wlo (w : S_window) : Int := max 0 (w.whole_.lo - w.at_.hi)
def whi (w : S_window) : Int := min w.room_ (w.whole_.hi - w.at_.lo)
/-- The width if so much is added. -/
def wf (w : S_window) (s : Int) : Int := min (w.at_.hi + s) w.whole_.hi - max (w.at_.lo + s) w.whole_.lo
theorem ends_eq {w : S_window} (h : Wk w) : zc w = (wlo w, whi w) := by
  obtain ⟨a, b, c, d, e, f, g, i, j⟩ := h
  unfold zc wlo whi
  rw [imax_eq, imin_eq, zX (by omega) (by omega), zX (by omega) (by omega)]
theorem seen_eq {w : S_window} (h : Wk w) {s : Int} (h0 : 0 ≤ s) (h1 : s ≤ w.room_) : zl w s = ⟨max (w.at_.lo + s) w.whole_.lo, min (w.at_.hi + s) w.whole_.hi⟩ := by
  obtain ⟨a, b, c, d, e, f, g, i, j⟩ := h
  unfold zl
  rw [zX (by omega) (by omega), zX (by omega) (by omega), common_eq]
  simp only []
  cases decide (max (w.at_.lo + s) w.whole_.lo ≤ min (w.at_.hi + s) w.whole_.hi) <;> rfl
/-- The greatest width; the least number added for it. -/
def wpos (w : S_window) : Int := min (max (min (w.whole_.lo - w.at_.lo) (w.whole_.hi - w.at_.hi)) (wlo w)) (whi w)
theorem widest_eq {w : S_window} (h : Wk w) : zD w = (wf w (wpos w), wpos w) := by
  have hk := h
  obtain ⟨a, b, c, d, e, f, g, i, j⟩ := h
  unfold zD
  rw [ends_eq hk]
  simp only []
  rw [imax_eq, imax_eq, imin_eq, imin_eq, zX (n := w.whole_.lo - w.at_.lo) (by omega) (by omega), zX (n := w.whole_.hi - w.at_.hi) (by omega) (by omega)]
  have hle : wlo w ≤ whi w := by unfold wlo whi; omega
  have hlo : 0 ≤ wlo w := by unfold wlo; omega
  have hhi : whi w ≤ w.room_ := by unfold whi; omega
  have hs4 : ∀ l : List Int, l.length ≤ 1000 → sort4 l = srt l := fun l hl => isort_eq hl
  rw [hs4 _ (by simp)]
  have hmem : ∀ s, s ∈ srt [wlo w, whi w, min (max (w.whole_.lo - w.at_.lo) (wlo w)) (whi w), min (max (w.whole_.hi - w.at_.hi) (wlo w)) (whi w)] ↔ s ∈ [wlo w, whi w, min (max (w.whole_.lo - w.at_.lo) (wlo w)) (whi w), min (max (w.whole_.hi - w.at_.hi) (wlo w)) (whi w)] := fun s => (srt_perm _).mem_iff
  have hin : ∀ s ∈ srt [wlo w, whi w, min (max (w.whole_.lo - w.at_.lo) (wlo w)) (whi w), min (max (w.whole_.hi - w.at_.hi) (wlo w)) (whi w)], wlo w ≤ s ∧ s ≤ whi w := by
    intro s hs
    have := (hmem s).1 hs
    simp only [List.mem_cons, List.mem_nil_iff, or_false] at this
    omega
  rw [wide6 (f := wf w) _ (-1) 0 (wf w (wpos w)) (wpos w)]
  · intro s hs
    have := hin s hs
    rw [seen_eq hk (by omega) (by omega)]
    unfold wf
    exact zX (by simp only []; omega) (by simp only []; omega)
  · exact srt_sorted _
  · unfold wf wpos wlo whi; omega
  · intro s hs
    have := hin s hs
    unfold wf wpos wlo whi at *
    omega
  · rw [hmem]
    simp only [List.mem_cons, List.mem_nil_iff, or_false]
    unfold wpos
    omega
  · rfl
  · intro s hs hsm
    have := hin s hs
    unfold wf wpos wlo whi at *
    omega
end Go.VS
namespace Go.VS
open Go Go.Proofs
set_option maxHeartbeats 0
set_option linter.unusedSimpArgs false
set_option linter.unusedVariables false
noncomputable def lp20_2 : Code := subC [1, 0, 1, 0, 0] (bodyC Try.f20)

inductive LR_r_Right_2 where
  | x0
  | x1 (i2 : Nat) (x2 : Int)
  | x2 (i2 : Nat) (x2 : Int)
  | x3 (i2 : Nat) (x2 : Int)
instance : Inhabited LR_r_Right_2 := ⟨.x0⟩
def r_Right_2 (e : S_Estate) (items : GS Int) : List Int → Nat → LR_r_Right_2
  | [], i2 => .x0
  | x2 :: rest2, i2 =>
    bif decide (x2 < 0) then
      .x1 i2 x2
    else
      bif decide (x2 ≥ ((e.items.l.length : Nat) : Int)) then
        .x2 i2 x2
      else
        bif decide (((i2 : Nat) : Int) > 0) then
          bif decide ((GS.at items (w64 (((i2 : Nat) : Int) - 1))) ≥ x2) then
            .x3 i2 x2
          else
            r_Right_2 e items rest2 (i2 + 1)
        else
          r_Right_2 e items rest2 (i2 + 1)
def lr_r_Right_2 (e : S_Estate) (items : GS Int) : LR_r_Right_2 → Exit × St
  | .x0 => ((.exit 0), ⟨43, [(9, B false), (8, I ((items.l.length : Nat) : Int)), (7, .sl items.nl (items.l.map I) (zsl items.nl 1) none), (6, I ((items.l.length : Nat) : Int)), (1, .sl items.nl (items.l.map I) (zsl items.nl 1) none), (2, .lref 0 0 3 0), (5, I ((items.l.length : Nat) : Int))], [(0, ⟨[.agg [.sl e.items.nl (e.items.l.map S_Item.D) (zsl e.items.nl 4) none, I e.whole.lo, I e.whole.hi]], 3, false⟩)], 1, 0⟩)
  | .x1 i2 x2 => (.ret, ⟨43, [(4, B false), (42, B true), (41, .tup []), (40, .tup []), (39, .tup []), (38, .tup []), (37, .tup []), (36, .tup []), (35, .tup []), (34, .tup []), (33, .tup []), (32, .tup []), (31, .tup []), (30, .tup []), (29, .tup []), (28, .tup []), (27, B true), (26, B true), (25, .tup []), (24, .tup []), (23, .tup []), (22, .tup []), (21, .tup []), (20, .tup []), (19, .tup []), (18, .tup []), (17, B true), (16, B true), (15, I x2), (14, .ptr (I x2)), (13, I ((i2 : Nat) : Int)), (12, .sl items.nl (items.l.map I) (zsl items.nl 1) none), (9, B true), (8, I ((items.l.length : Nat) : Int)), (7, .sl items.nl (items.l.map I) (zsl items.nl 1) none), (6, I ((i2 : Nat) : Int)), (1, .sl items.nl (items.l.map I) (zsl items.nl 1) none), (2, .lref 0 0 3 0), (5, I ((i2 : Nat) : Int))], [(0, ⟨[.agg [.sl e.items.nl (e.items.l.map S_Item.D) (zsl e.items.nl 4) none, I e.whole.lo, I e.whole.hi]], 3, false⟩)], 1, 0⟩)
  | .x2 i2 x2 => (.ret, ⟨43, [(4, B false), (42, B true), (41, .tup []), (40, .tup []), (39, .tup []), (38, .tup []), (37, .tup []), (36, .tup []), (35, .tup []), (34, .tup []), (33, .tup []), (32, .tup []), (31, .tup []), (30, .tup []), (29, .tup []), (28, .tup []), (27, B true), (26, B true), (25, B true), (24, I ((e.items.l.length : Nat) : Int)), (23, .sl e.items.nl (e.items.l.map S_Item.D) (zsl e.items.nl 4) none), (22, .lref 0 0 3 0), (21, I x2), (20, .ptr (I x2)), (19, I ((i2 : Nat) : Int)), (18, .sl items.nl (items.l.map I) (zsl items.nl 1) none), (17, B false), (16, B false), (15, I x2), (14, .ptr (I x2)), (13, I ((i2 : Nat) : Int)), (12, .sl items.nl (items.l.map I) (zsl items.nl 1) none), (9, B true), (8, I ((items.l.length : Nat) : Int)), (7, .sl items.nl (items.l.map I) (zsl items.nl 1) none), (6, I ((i2 : Nat) : Int)), (1, .sl items.nl (items.l.map I) (zsl items.nl 1) none), (2, .lref 0 0 3 0), (5, I ((i2 : Nat) : Int))], [(0, ⟨[.agg [.sl e.items.nl (e.items.l.map S_Item.D) (zsl e.items.nl 4) none, I e.whole.lo, I e.whole.hi]], 3, false⟩)], 1, 0⟩)
  | .x3 i2 x2 => (.ret, ⟨43, [(4, B false), (42, B true), (41, B true), (40, B true), (39, I x2), (38, .ptr (I x2)), (37, I ((i2 : Nat) : Int)), (36, .sl items.nl (items.l.map I) (zsl items.nl 1) none), (35, I (GS.at items (w64 (((i2 : Nat) : Int) - 1)))), (34, .ptr (I (GS.at items (w64 (((i2 : Nat) : Int) - 1))))), (33, I (w64 (((i2 : Nat) : Int) - 1))), (32, I ((i2 : Nat) : Int)), (31, .sl items.nl (items.l.map I) (zsl items.nl 1) none), (30, B true), (29, B true), (28, I ((i2 : Nat) : Int)), (27, B false), (26, B false), (25, B false), (24, I ((e.items.l.length : Nat) : Int)), (23, .sl e.items.nl (e.items.l.map S_Item.D) (zsl e.items.nl 4) none), (22, .lref 0 0 3 0), (21, I x2), (20, .ptr (I x2)), (19, I ((i2 : Nat) : Int)), (18, .sl items.nl (items.l.map I) (zsl items.nl 1) none), (17, B false), (16, B false), (15, I x2), (14, .ptr (I x2)), (13, I ((i2 : Nat) : Int)), (12, .sl items.nl (items.l.map I) (zsl items.nl 1) none), (9, B true), (8, I ((items.l.length : Nat) : Int)), (7, .sl items.nl (items.l.map I) (zsl items.nl 1) none), (6, I ((i2 : Nat) : Int)), (1, .sl items.nl (items.l.map I) (zsl items.nl 1) none), (2, .lref 0 0 3 0), (5, I ((i2 : Nat) : Int))], [(0, ⟨[.agg [.sl e.items.nl (e.items.l.map S_Item.D) (zsl e.items.nl 4) none, I e.whole.lo, I e.whole.hi]], 3, false⟩)], 1, 0⟩)
def r_Right_2_l_o1 (e : S_Estate) (items : GS Int) (x2 : Int) : List Ora := [.rw 8 (I ((items.l.length : Nat) : Int)), .dec true, .el (I x2), .dec false, .el (I x2), .rw 24 (I ((e.items.l.length : Nat) : Int))]
theorem lp_r_Right_2 (e : S_Estate) (items : GS Int) : ∀ (rest2 : List Int) (i2 : Nat) (hd2 : items.l.drop i2 = rest2) (hi2 : i2 ≤ items.l.length) (hL2 : items.l.length ≤ 9223372036854775807), (lim cfg).loop 20 lp20_2 ⟨43, [(1, .sl items.nl (items.l.map I) (zsl items.nl 1) none), (2, .lref 0 0 3 0), (5, I ((i2 : Nat) : Int))], [(0, ⟨[.agg [.sl e.items.nl (e.items.l.map S_Item.D) (zsl e.items.nl 4) none, I e.whole.lo, I e.whole.hi]], 3, false⟩)], 1, 0⟩ = some (lr_r_Right_2 e items (r_Right_2 e items rest2 i2)) := by
  intro rest2
  induction rest2 with
  | nil =>
    intro i2 hd2 hi2 hL2
    unfold r_Right_2
    obtain rfl : i2 = items.l.length := nil_eq hd2 hi2
    exact zP [.rw 8 (I ((items.l.length : Nat) : Int)), .dec false] (And.intro (lt_no hd2) (And.intro (zg I items) trivial)) (by kernel_rfl)
  | cons x2 rest2 ih =>
    intro i2 hd2 hi2 hL2
    have hlt2 := zx hd2
    unfold r_Right_2
    have p1 := (el_at (s := items) (f := I) (k := 1) hd2)
    cases h5 : decide (x2 < 0) with
    | true =>
      have g5 := of_decide_eq_true h5
      exact zP [.rw 8 (I ((items.l.length : Nat) : Int)), .dec true, .el (I x2), .dec true] (And.intro h5 (And.intro p1 (And.intro (lt_at hd2) (And.intro (zg I items) trivial)))) (by kernel_rfl)
    | false =>
      have g5 := of_decide_eq_false h5
      have p2 := (el_at (s := items) (f := I) (k := 1) hd2)
      cases h6 : decide (x2 ≥ ((e.items.l.length : Nat) : Int)) with
      | true =>
        have g6 := of_decide_eq_true h6
        exact zP ((r_Right_2_l_o1 e items x2) ++ [.dec true]) (And.intro h6 (And.intro (zg S_Item.D e.items) (And.intro p2 (And.intro h5 (And.intro p1 (And.intro (lt_at hd2) (And.intro (zg I items) trivial))))))) (by kernel_rfl)
      | false =>
        have g6 := of_decide_eq_false h6
        cases h7 : decide (((i2 : Nat) : Int) > 0) with
        | true =>
          have g7 := of_decide_eq_true h7
          have p3 := (el_in (s := items) (f := I) (k := 1) (i := w64 (((i2 : Nat) : Int) - 1)) (by first | assumption | omega | (exact za) | (simp only [z9] at * <;> omega) | (simp only [z5, z6, z7, z8, GS.some_l, List.length_set, List.length_append, List.length_cons, List.length_nil] at * <;> first | assumption | omega) | (simp only [z5, z6, z7, z8, GS.some_l, List.length_set, List.length_append, List.length_cons, List.length_nil, z9] at * <;> first | assumption | omega) | (simp at * <;> omega)) (by first | assumption | omega | (exact za) | (simp only [z9] at * <;> omega) | (simp only [z5, z6, z7, z8, GS.some_l, List.length_set, List.length_append, List.length_cons, List.length_nil] at * <;> first | assumption | omega) | (simp only [z5, z6, z7, z8, GS.some_l, List.length_set, List.length_append, List.length_cons, List.length_nil, z9] at * <;> first | assumption | omega) | (simp at * <;> omega)))
          have p4 := (el_at (s := items) (f := I) (k := 1) hd2)
          cases h8 : decide ((GS.at items (w64 (((i2 : Nat) : Int) - 1))) ≥ x2) with
          | true =>
            have g8 := of_decide_eq_true h8
            exact zP ((r_Right_2_l_o1 e items x2) ++ [.dec false, .dec true, .el (I (GS.at items (w64 (((i2 : Nat) : Int) - 1)))), .el (I x2), .dec true]) (And.intro h8 (And.intro p4 (And.intro p3 (And.intro h7 (And.intro h6 (And.intro (zg S_Item.D e.items) (And.intro p2 (And.intro h5 (And.intro p1 (And.intro (lt_at hd2) (And.intro (zg I items) trivial))))))))))) (by kernel_rfl)
          | false =>
            have g8 := of_decide_eq_false h8
            exact po_turn ((r_Right_2_l_o1 e items x2) ++ [.dec false, .dec true, .el (I (GS.at items (w64 (((i2 : Nat) : Int) - 1)))), .el (I x2), .dec false, .rw 11 (I ((i2 + 1 : Nat) : Int))]) (And.intro (inc_rw (i := i2) (by have := zx hd2; omega)) (And.intro h8 (And.intro p4 (And.intro p3 (And.intro h7 (And.intro h6 (And.intro (zg S_Item.D e.items) (And.intro p2 (And.intro h5 (And.intro p1 (And.intro (lt_at hd2) (And.intro (zg I items) trivial)))))))))))) (ih (i2 + 1) (zE hd2) (zx hd2) (by first | assumption | omega | (exact za) | (simp only [z9] at * <;> omega) | (simp only [z5, z6, z7, z8, GS.some_l, List.length_set, List.length_append, List.length_cons, List.length_nil] at * <;> first | assumption | omega) | (simp only [z5, z6, z7, z8, GS.some_l, List.length_set, List.length_append, List.length_cons, List.length_nil, z9] at * <;> first | assumption | omega) | (simp at * <;> omega))) (by kernel_rfl)
        | false =>
          have g7 := of_decide_eq_false h7
          exact po_turn ((r_Right_2_l_o1 e items x2) ++ [.dec false, .dec false, .rw 11 (I ((i2 + 1 : Nat) : Int))]) (And.intro (inc_rw (i := i2) (by have := zx hd2; omega)) (And.intro h7 (And.intro h6 (And.intro (zg S_Item.D e.items) (And.intro p2 (And.intro h5 (And.intro p1 (And.intro (lt_at hd2) (And.intro (zg I items) trivial))))))))) (ih (i2 + 1) (zE hd2) (zx hd2) (by first | assumption | omega | (exact za) | (simp only [z9] at * <;> omega) | (simp only [z5, z6, z7, z8, GS.some_l, List.length_set, List.length_append, List.length_cons, List.length_nil] at * <;> first | assumption | omega) | (simp only [z5, z6, z7, z8, GS.some_l, List.length_set, List.length_append, List.length_cons, List.length_nil, z9] at * <;> first | assumption | omega) | (simp at * <;> omega))) (by kernel_rfl)

def r_Right (e : S_Estate) (items : GS Int) : Bool :=
  match r_Right_2 e items items.l 0 with
  | .x0 =>
    true
  | .x1 i2 x2 =>
    false
  | .x2 i2 x2 =>
    false
  | .x3 i2 x2 =>
    false

def sd87 (e : S_Estate) (items : GS Int) : St := ⟨43, [(9, B false), (8, I ((items.l.length : Nat) : Int)), (7, .sl items.nl (items.l.map I) (zsl items.nl 1) none), (6, I ((items.l.length : Nat) : Int)), (1, .sl items.nl (items.l.map I) (zsl items.nl 1) none), (2, .lref 0 0 3 0), (5, I ((items.l.length : Nat) : Int))], [(0, ⟨[.agg [.sl e.items.nl (e.items.l.map S_Item.D) (zsl e.items.nl 4) none, I e.whole.lo, I e.whole.hi]], 3, false⟩)], 1, 0⟩

def sd88 (e : S_Estate) (items : GS Int) (i2 : Nat) (x2 : Int) : St := ⟨43, [(4, B false), (42, B true), (41, .tup []), (40, .tup []), (39, .tup []), (38, .tup []), (37, .tup []), (36, .tup []), (35, .tup []), (34, .tup []), (33, .tup []), (32, .tup []), (31, .tup []), (30, .tup []), (29, .tup []), (28, .tup []), (27, B true), (26, B true), (25, .tup []), (24, .tup []), (23, .tup []), (22, .tup []), (21, .tup []), (20, .tup []), (19, .tup []), (18, .tup []), (17, B true), (16, B true), (15, I x2), (14, .ptr (I x2)), (13, I ((i2 : Nat) : Int)), (12, .sl items.nl (items.l.map I) (zsl items.nl 1) none), (9, B true), (8, I ((items.l.length : Nat) : Int)), (7, .sl items.nl (items.l.map I) (zsl items.nl 1) none), (6, I ((i2 : Nat) : Int)), (1, .sl items.nl (items.l.map I) (zsl items.nl 1) none), (2, .lref 0 0 3 0), (5, I ((i2 : Nat) : Int))], [(0, ⟨[.agg [.sl e.items.nl (e.items.l.map S_Item.D) (zsl e.items.nl 4) none, I e.whole.lo, I e.whole.hi]], 3, false⟩)], 1, 0⟩

def sd89 (e : S_Estate) (items : GS Int) (i2 : Nat) (x2 : Int) : St := ⟨43, [(4, B false), (42, B true), (41, .tup []), (40, .tup []), (39, .tup []), (38, .tup []), (37, .tup []), (36, .tup []), (35, .tup []), (34, .tup []), (33, .tup []), (32, .tup []), (31, .tup []), (30, .tup []), (29, .tup []), (28, .tup []), (27, B true), (26, B true), (25, B true), (24, I ((e.items.l.length : Nat) : Int)), (23, .sl e.items.nl (e.items.l.map S_Item.D) (zsl e.items.nl 4) none), (22, .lref 0 0 3 0), (21, I x2), (20, .ptr (I x2)), (19, I ((i2 : Nat) : Int)), (18, .sl items.nl (items.l.map I) (zsl items.nl 1) none), (17, B false), (16, B false), (15, I x2), (14, .ptr (I x2)), (13, I ((i2 : Nat) : Int)), (12, .sl items.nl (items.l.map I) (zsl items.nl 1) none), (9, B true), (8, I ((items.l.length : Nat) : Int)), (7, .sl items.nl (items.l.map I) (zsl items.nl 1) none), (6, I ((i2 : Nat) : Int)), (1, .sl items.nl (items.l.map I) (zsl items.nl 1) none), (2, .lref 0 0 3 0), (5, I ((i2 : Nat) : Int))], [(0, ⟨[.agg [.sl e.items.nl (e.items.l.map S_Item.D) (zsl e.items.nl 4) none, I e.whole.lo, I e.whole.hi]], 3, false⟩)], 1, 0⟩

def sd90 (e : S_Estate) (items : GS Int) (i2 : Nat) (x2 : Int) : St := ⟨43, [(4, B false), (42, B true), (41, B true), (40, B true), (39, I x2), (38, .ptr (I x2)), (37, I ((i2 : Nat) : Int)), (36, .sl items.nl (items.l.map I) (zsl items.nl 1) none), (35, I (GS.at items (w64 (((i2 : Nat) : Int) - 1)))), (34, .ptr (I (GS.at items (w64 (((i2 : Nat) : Int) - 1))))), (33, I (w64 (((i2 : Nat) : Int) - 1))), (32, I ((i2 : Nat) : Int)), (31, .sl items.nl (items.l.map I) (zsl items.nl 1) none), (30, B true), (29, B true), (28, I ((i2 : Nat) : Int)), (27, B false), (26, B false), (25, B false), (24, I ((e.items.l.length : Nat) : Int)), (23, .sl e.items.nl (e.items.l.map S_Item.D) (zsl e.items.nl 4) none), (22, .lref 0 0 3 0), (21, I x2), (20, .ptr (I x2)), (19, I ((i2 : Nat) : Int)), (18, .sl items.nl (items.l.map I) (zsl items.nl 1) none), (17, B false), (16, B false), (15, I x2), (14, .ptr (I x2)), (13, I ((i2 : Nat) : Int)), (12, .sl items.nl (items.l.map I) (zsl items.nl 1) none), (9, B true), (8, I ((items.l.length : Nat) : Int)), (7, .sl items.nl (items.l.map I) (zsl items.nl 1) none), (6, I ((i2 : Nat) : Int)), (1, .sl items.nl (items.l.map I) (zsl items.nl 1) none), (2, .lref 0 0 3 0), (5, I ((i2 : Nat) : Int))], [(0, ⟨[.agg [.sl e.items.nl (e.items.l.map S_Item.D) (zsl e.items.nl 4) none, I e.whole.lo, I e.whole.hi]], 3, false⟩)], 1, 0⟩

theorem zQ (e : S_Estate) (items : GS Int) (hL : items.l.length ≤ 9223372036854775807) : (lim cfg).pure 20 [S_Estate.D e, GS.D I 1 items] = some (B (r_Right e items)) := by
  unfold r_Right
  cases h9 : r_Right_2 e items items.l 0 with
  | x0 =>
    try dsimp only
    exact zi [.loop (.exit 0) (sd87 e items)] (And.intro (po_lr (q := lr_r_Right_2 e items) (lp_r_Right_2 e items items.l 0 (List.drop_zero) (Nat.zero_le _) (by first | assumption | omega | (exact za) | (simp only [z9] at * <;> omega) | (simp only [z5, z6, z7, z8, GS.some_l, List.length_set, List.length_append, List.length_cons, List.length_nil] at * <;> first | assumption | omega) | (simp only [z5, z6, z7, z8, GS.some_l, List.length_set, List.length_append, List.length_cons, List.length_nil, z9] at * <;> first | assumption | omega) | (simp at * <;> omega))) h9) trivial) (by kernel_rfl)
  | x1 i2 x2 =>
    try dsimp only
    exact zi [.loop .ret (sd88 e items i2 x2)] (And.intro (po_lr (q := lr_r_Right_2 e items) (lp_r_Right_2 e items items.l 0 (List.drop_zero) (Nat.zero_le _) (by first | assumption | omega | (exact za) | (simp only [z9] at * <;> omega) | (simp only [z5, z6, z7, z8, GS.some_l, List.length_set, List.length_append, List.length_cons, List.length_nil] at * <;> first | assumption | omega) | (simp only [z5, z6, z7, z8, GS.some_l, List.length_set, List.length_append, List.length_cons, List.length_nil, z9] at * <;> first | assumption | omega) | (simp at * <;> omega))) h9) trivial) (by kernel_rfl)
  | x2 i2 x2 =>
    try dsimp only
    exact zi [.loop .ret (sd89 e items i2 x2)] (And.intro (po_lr (q := lr_r_Right_2 e items) (lp_r_Right_2 e items items.l 0 (List.drop_zero) (Nat.zero_le _) (by first | assumption | omega | (exact za) | (simp only [z9] at * <;> omega) | (simp only [z5, z6, z7, z8, GS.some_l, List.length_set, List.length_append, List.length_cons, List.length_nil] at * <;> first | assumption | omega) | (simp only [z5, z6, z7, z8, GS.some_l, List.length_set, List.length_append, List.length_cons, List.length_nil, z9] at * <;> first | assumption | omega) | (simp at * <;> omega))) h9) trivial) (by kernel_rfl)
  | x3 i2 x2 =>
    try dsimp only
    exact zi [.loop .ret (sd90 e items i2 x2)] (And.intro (po_lr (q := lr_r_Right_2 e items) (lp_r_Right_2 e items items.l 0 (List.drop_zero) (Nat.zero_le _) (by first | assumption | omega | (exact za) | (simp only [z9] at * <;> omega) | (simp only [z5, z6, z7, z8, GS.some_l, List.length_set, List.length_append, List.length_cons, List.length_nil] at * <;> first | assumption | omega) | (simp only [z5, z6, z7, z8, GS.some_l, List.length_set, List.length_append, List.length_cons, List.length_nil, z9] at * <;> first | assumption | omega) | (simp at * <;> omega))) h9) trivial) (by kernel_rfl)

theorem rright5 {e : S_Estate} {items : GS Int} (hL : items.l.length ≤ 9223372036854775807) : ∀ (l : List Int) (i : Nat), items.l.drop i = l → (r_Right_2 e items l i = .x0 ↔ inc (if i = 0 then -1 else items.at ((i : Int) - 1)) (e.items.l.length : Int) l)
  | [], i, _ => by simp [r_Right_2, inc]
  | x :: l, i, hd => by
    have hlt := zx hd
    have hx : items.at (i : Int) = x := at_of hd
    have ih := rright5 (e := e) (items := items) hL l (i + 1) (zE hd)
    rw [if_neg (by omega), show ((i + 1 : Nat) : Int) - 1 = (i : Int) by omega, hx] at ih
    unfold r_Right_2
    simp only [inc]
    cases h1 : decide (x < 0) with
    | true => have := of_decide_eq_true h1; simp only [cond_true]; exact ⟨fun h => (by cases h), fun h => by omega⟩
    | false =>
      have := of_decide_eq_false h1
      cases h2 : decide (x ≥ ((e.items.l.length : Nat) : Int)) with
      | true => have := of_decide_eq_true h2; simp only [cond_true, cond_false]; exact ⟨fun h => (by cases h), fun h => by omega⟩
      | false =>
        have := of_decide_eq_false h2
        simp only [cond_false]
        by_cases h0 : i = 0
        · subst h0
          have e0 : decide (((0 : Nat) : Int) > 0) = false := rfl
          rw [e0, if_pos rfl]
          simp only [cond_false, ih]
          exact ⟨fun h => ⟨by omega, by omega, by omega, h⟩, fun h => h.2.2.2⟩
        · rw [if_neg h0, decide_eq_true (by omega : ((i : Nat) : Int) > 0)]
          simp only [cond_true]
          rw [zX (by omega) (by omega)]
          cases h2 : decide (items.at (((i : Nat) : Int) - 1) ≥ x) with
          | true => have := of_decide_eq_true h2; simp only [cond_true]; exact ⟨fun h => (by cases h), fun h => by omega⟩
          | false =>
            have := of_decide_eq_false h2
            simp only [cond_false, ih]
            exact ⟨fun h => ⟨by omega, by omega, by omega, h⟩, fun h => h.2.2.2⟩
theorem rright_iff {e : S_Estate} {items : GS Int} (hL : items.l.length ≤ 9223372036854775807) : r_Right e items = true ↔ inc (-1) (e.items.l.length : Int) items.l := by
  have k := rright5 (e := e) hL items.l 0 List.drop_zero
  rw [if_pos rfl] at k
  rw [← k]
  unfold r_Right
  cases r_Right_2 e items items.l 0 <;> simp

noncomputable def lp9_12 : Code := subC [1, 1, 1, 1, 1, 1, 1, 1, 0, 1, 0, 0] (bodyC Try.f9)

inductive LR_l_OrdersGains_12 where
  | x0 (v12_0 : Int) (v12_1 : Int)
  | x1 (i12 : Nat) (x12 : Int) (v12_0 : Int) (v12_1 : Int)
instance : Inhabited LR_l_OrdersGains_12 := ⟨.x0 default default⟩
def l_OrdersGains_12 (items : GS Int) : List Int → Nat → Int → Int → LR_l_OrdersGains_12
  | [], i12, v12_0, v12_1 => .x0 v12_0 v12_1
  | x12 :: rest12, i12, v12_0, v12_1 =>
    bif decide (x12 < 0) then
      .x1 i12 x12 v12_0 v12_1
    else
      bif (slices_Contains items ((i12 : Nat) : Int)) then
        l_OrdersGains_12 items rest12 (i12 + 1) (w64 (v12_0 + x12)) (w64 (v12_1 + x12))
      else
        l_OrdersGains_12 items rest12 (i12 + 1) v12_0 (w64 (v12_1 + x12))
def lr_l_OrdersGains_12 (items : GS Int) (width : Int) (q12_0 : GS Int) (q12_1 : Int) (q12_2 : Int) : LR_l_OrdersGains_12 → Exit × St
  | .x0 v12_0 v12_1 => ((.exit 0), ⟨106, [(76, B false), (1, .sl items.nl (items.l.map I) (zsl items.nl 1) none), (2, I width), (7, I q12_1), (11, I q12_2), (12, B true), (14, I v12_0), (15, I v12_1), (73, .sl q12_0.nl (q12_0.l.map I) (zsl q12_0.nl 1) none), (74, I ((q12_0.l.length : Nat) : Int)), (75, I ((q12_0.l.length : Nat) : Int))], [], 0, 0⟩)
  | .x1 i12 x12 v12_0 v12_1 => (.ret, ⟨106, [(6, B false), (81, B true), (80, I x12), (17, I x12), (16, I ((i12 : Nat) : Int)), (79, I x12), (78, .ptr (I x12)), (77, I ((i12 : Nat) : Int)), (76, B true), (1, .sl items.nl (items.l.map I) (zsl items.nl 1) none), (2, I width), (7, I q12_1), (11, I q12_2), (12, B true), (14, I v12_0), (15, I v12_1), (73, .sl q12_0.nl (q12_0.l.map I) (zsl q12_0.nl 1) none), (74, I ((q12_0.l.length : Nat) : Int)), (75, I ((i12 : Nat) : Int))], [], 0, 0⟩)
theorem lp_l_OrdersGains_12 (items : GS Int) (width : Int) (q12_0 : GS Int) (q12_1 : Int) (q12_2 : Int) : ∀ (rest12 : List Int) (i12 : Nat) (v12_0 : Int) (v12_1 : Int) (hd12 : q12_0.l.drop i12 = rest12) (hi12 : i12 ≤ q12_0.l.length) (hL : items.l.length ≤ 9223372036854775807) (hL12 : q12_0.l.length ≤ 9223372036854775807), (lim cfg).loop 9 lp9_12 ⟨106, [(1, .sl items.nl (items.l.map I) (zsl items.nl 1) none), (2, I width), (7, I q12_1), (11, I q12_2), (12, B true), (14, I v12_0), (15, I v12_1), (73, .sl q12_0.nl (q12_0.l.map I) (zsl q12_0.nl 1) none), (74, I ((q12_0.l.length : Nat) : Int)), (75, I ((i12 : Nat) : Int))], [], 0, 0⟩ = some (lr_l_OrdersGains_12 items width q12_0 q12_1 q12_2 (l_OrdersGains_12 items rest12 i12 v12_0 v12_1)) := by
  intro rest12
  induction rest12 with
  | nil =>
    intro i12 v12_0 v12_1 hd12 hi12 hL hL12
    unfold l_OrdersGains_12
    obtain rfl : i12 = q12_0.l.length := nil_eq hd12 hi12
    exact zP [.dec false] (And.intro (lt_no hd12) trivial) (by kernel_rfl)
  | cons x12 rest12 ih =>
    intro i12 v12_0 v12_1 hd12 hi12 hL hL12
    have hlt12 := zx hd12
    unfold l_OrdersGains_12
    have p1 := (el_at (s := q12_0) (f := I) (k := 1) hd12)
    cases h12 : decide (x12 < 0) with
    | true =>
      have g12 := of_decide_eq_true h12
      exact zP [.dec true, .el (I x12), .dec true] (And.intro h12 (And.intro p1 (And.intro (lt_at hd12) trivial))) (by kernel_rfl)
    | false =>
      have g12 := of_decide_eq_false h12
      have p2 := (T_slices_Contains items ((i12 : Nat) : Int) (by first | assumption | omega | (exact za) | (simp only [z9] at * <;> omega) | (simp only [z5, z6, z7, z8, GS.some_l, List.length_set, List.length_append, List.length_cons, List.length_nil] at * <;> first | assumption | omega) | (simp only [z5, z6, z7, z8, GS.some_l, List.length_set, List.length_append, List.length_cons, List.length_nil, z9] at * <;> first | assumption | omega) | (simp at * <;> omega)))
      cases h13 : (slices_Contains items ((i12 : Nat) : Int)) with
      | true =>
        exact po_turn [.dec true, .el (I x12), .dec false, .pure (B (slices_Contains items ((i12 : Nat) : Int))), .dec true, .rw 91 (I ((i12 + 1 : Nat) : Int))] (And.intro (inc_rw (i := i12) (by have := zx hd12; omega)) (And.intro h13 (And.intro p2 (And.intro h12 (And.intro p1 (And.intro (lt_at hd12) trivial)))))) (ih (i12 + 1) (w64 (v12_0 + x12)) (w64 (v12_1 + x12)) (zE hd12) (zx hd12) (by first | assumption | omega | (exact za) | (simp only [z9] at * <;> omega) | (simp only [z5, z6, z7, z8, GS.some_l, List.length_set, List.length_append, List.length_cons, List.length_nil] at * <;> first | assumption | omega) | (simp only [z5, z6, z7, z8, GS.some_l, List.length_set, List.length_append, List.length_cons, List.length_nil, z9] at * <;> first | assumption | omega) | (simp at * <;> omega)) (by first | assumption | omega | (exact za) | (simp only [z9] at * <;> omega) | (simp only [z5, z6, z7, z8, GS.some_l, List.length_set, List.length_append, List.length_cons, List.length_nil] at * <;> first | assumption | omega) | (simp only [z5, z6, z7, z8, GS.some_l, List.length_set, List.length_append, List.length_cons, List.length_nil, z9] at * <;> first | assumption | omega) | (simp at * <;> omega))) (by kernel_rfl)
      | false =>
        exact po_turn [.dec true, .el (I x12), .dec false, .pure (B (slices_Contains items ((i12 : Nat) : Int))), .dec false, .rw 91 (I ((i12 + 1 : Nat) : Int))] (And.intro (inc_rw (i := i12) (by have := zx hd12; omega)) (And.intro h13 (And.intro p2 (And.intro h12 (And.intro p1 (And.intro (lt_at hd12) trivial)))))) (ih (i12 + 1) v12_0 (w64 (v12_1 + x12)) (zE hd12) (zx hd12) (by first | assumption | omega | (exact za) | (simp only [z9] at * <;> omega) | (simp only [z5, z6, z7, z8, GS.some_l, List.length_set, List.length_append, List.length_cons, List.length_nil] at * <;> first | assumption | omega) | (simp only [z5, z6, z7, z8, GS.some_l, List.length_set, List.length_append, List.length_cons, List.length_nil, z9] at * <;> first | assumption | omega) | (simp at * <;> omega)) (by first | assumption | omega | (exact za) | (simp only [z9] at * <;> omega) | (simp only [z5, z6, z7, z8, GS.some_l, List.length_set, List.length_append, List.length_cons, List.length_nil] at * <;> first | assumption | omega) | (simp only [z5, z6, z7, z8, GS.some_l, List.length_set, List.length_append, List.length_cons, List.length_nil, z9] at * <;> first | assumption | omega) | (simp at * <;> omega))) (by kernel_rfl)

inductive LR_l_OrdersGains_12p1 where
  | x0 (v12p1_0 : Int) (v12p1_1 : Int)
  | x1 (i12p1 : Nat) (x12p1 : Int) (v12p1_0 : Int) (v12p1_1 : Int)
instance : Inhabited LR_l_OrdersGains_12p1 := ⟨.x0 default default⟩
def l_OrdersGains_12p1 (items : GS Int) : List Int → Nat → Int → Int → LR_l_OrdersGains_12p1
  | [], i12p1, v12p1_0, v12p1_1 => .x0 v12p1_0 v12p1_1
  | x12p1 :: rest12p1, i12p1, v12p1_0, v12p1_1 =>
    bif decide (x12p1 < 0) then
      .x1 i12p1 x12p1 v12p1_0 v12p1_1
    else
      bif (slices_Contains items ((i12p1 : Nat) : Int)) then
        l_OrdersGains_12p1 items rest12p1 (i12p1 + 1) (w64 (v12p1_0 + x12p1)) (w64 (v12p1_1 + x12p1))
      else
        l_OrdersGains_12p1 items rest12p1 (i12p1 + 1) v12p1_0 (w64 (v12p1_1 + x12p1))
def lr_l_OrdersGains_12p1 (items : GS Int) (width : Int) (q12p1_0 : GS Int) (q12p1_1 : Int) (q12p1_2 : Int) : LR_l_OrdersGains_12p1 → Exit × St
  | .x0 v12p1_0 v12p1_1 => ((.exit 0), ⟨106, [(76, B false), (1, .sl items.nl (items.l.map I) (zsl items.nl 1) none), (2, I width), (7, I q12p1_1), (11, I q12p1_2), (12, B false), (14, I v12p1_0), (15, I v12p1_1), (73, .sl q12p1_0.nl (q12p1_0.l.map I) (zsl q12p1_0.nl 1) none), (74, I ((q12p1_0.l.length : Nat) : Int)), (75, I ((q12p1_0.l.length : Nat) : Int))], [], 0, 0⟩)
  | .x1 i12p1 x12p1 v12p1_0 v12p1_1 => (.ret, ⟨106, [(6, B false), (81, B true), (80, I x12p1), (17, I x12p1), (16, I ((i12p1 : Nat) : Int)), (79, I x12p1), (78, .ptr (I x12p1)), (77, I ((i12p1 : Nat) : Int)), (76, B true), (1, .sl items.nl (items.l.map I) (zsl items.nl 1) none), (2, I width), (7, I q12p1_1), (11, I q12p1_2), (12, B false), (14, I v12p1_0), (15, I v12p1_1), (73, .sl q12p1_0.nl (q12p1_0.l.map I) (zsl q12p1_0.nl 1) none), (74, I ((q12p1_0.l.length : Nat) : Int)), (75, I ((i12p1 : Nat) : Int))], [], 0, 0⟩)
theorem lp_l_OrdersGains_12p1 (items : GS Int) (width : Int) (q12p1_0 : GS Int) (q12p1_1 : Int) (q12p1_2 : Int) : ∀ (rest12p1 : List Int) (i12p1 : Nat) (v12p1_0 : Int) (v12p1_1 : Int) (hd12p1 : q12p1_0.l.drop i12p1 = rest12p1) (hi12p1 : i12p1 ≤ q12p1_0.l.length) (hL : items.l.length ≤ 9223372036854775807) (hL12p1 : q12p1_0.l.length ≤ 9223372036854775807), (lim cfg).loop 9 lp9_12 ⟨106, [(1, .sl items.nl (items.l.map I) (zsl items.nl 1) none), (2, I width), (7, I q12p1_1), (11, I q12p1_2), (12, B false), (14, I v12p1_0), (15, I v12p1_1), (73, .sl q12p1_0.nl (q12p1_0.l.map I) (zsl q12p1_0.nl 1) none), (74, I ((q12p1_0.l.length : Nat) : Int)), (75, I ((i12p1 : Nat) : Int))], [], 0, 0⟩ = some (lr_l_OrdersGains_12p1 items width q12p1_0 q12p1_1 q12p1_2 (l_OrdersGains_12p1 items rest12p1 i12p1 v12p1_0 v12p1_1)) := by
  intro rest12p1
  induction rest12p1 with
  | nil =>
    intro i12p1 v12p1_0 v12p1_1 hd12p1 hi12p1 hL hL12p1
    unfold l_OrdersGains_12p1
    obtain rfl : i12p1 = q12p1_0.l.length := nil_eq hd12p1 hi12p1
    exact zP [.dec false] (And.intro (lt_no hd12p1) trivial) (by kernel_rfl)
  | cons x12p1 rest12p1 ih =>
    intro i12p1 v12p1_0 v12p1_1 hd12p1 hi12p1 hL hL12p1
    have hlt12p1 := zx hd12p1
    unfold l_OrdersGains_12p1
    have p1 := (el_at (s := q12p1_0) (f := I) (k := 1) hd12p1)
    cases h27 : decide (x12p1 < 0) with
    | true =>
      have g27 := of_decide_eq_true h27
      exact zP [.dec true, .el (I x12p1), .dec true] (And.intro h27 (And.intro p1 (And.intro (lt_at hd12p1) trivial))) (by kernel_rfl)
    | false =>
      have g27 := of_decide_eq_false h27
      have p2 := (T_slices_Contains items ((i12p1 : Nat) : Int) (by first | assumption | omega | (exact za) | (simp only [z9] at * <;> omega) | (simp only [z5, z6, z7, z8, GS.some_l, List.length_set, List.length_append, List.length_cons, List.length_nil] at * <;> first | assumption | omega) | (simp only [z5, z6, z7, z8, GS.some_l, List.length_set, List.length_append, List.length_cons, List.length_nil, z9] at * <;> first | assumption | omega) | (simp at * <;> omega)))
      cases h28 : (slices_Contains items ((i12p1 : Nat) : Int)) with
      | true =>
        exact po_turn [.dec true, .el (I x12p1), .dec false, .pure (B (slices_Contains items ((i12p1 : Nat) : Int))), .dec true, .rw 91 (I ((i12p1 + 1 : Nat) : Int))] (And.intro (inc_rw (i := i12p1) (by have := zx hd12p1; omega)) (And.intro h28 (And.intro p2 (And.intro h27 (And.intro p1 (And.intro (lt_at hd12p1) trivial)))))) (ih (i12p1 + 1) (w64 (v12p1_0 + x12p1)) (w64 (v12p1_1 + x12p1)) (zE hd12p1) (zx hd12p1) (by first | assumption | omega | (exact za) | (simp only [z9] at * <;> omega) | (simp only [z5, z6, z7, z8, GS.some_l, List.length_set, List.length_append, List.length_cons, List.length_nil] at * <;> first | assumption | omega) | (simp only [z5, z6, z7, z8, GS.some_l, List.length_set, List.length_append, List.length_cons, List.length_nil, z9] at * <;> first | assumption | omega) | (simp at * <;> omega)) (by first | assumption | omega | (exact za) | (simp only [z9] at * <;> omega) | (simp only [z5, z6, z7, z8, GS.some_l, List.length_set, List.length_append, List.length_cons, List.length_nil] at * <;> first | assumption | omega) | (simp only [z5, z6, z7, z8, GS.some_l, List.length_set, List.length_append, List.length_cons, List.length_nil, z9] at * <;> first | assumption | omega) | (simp at * <;> omega))) (by kernel_rfl)
      | false =>
        exact po_turn [.dec true, .el (I x12p1), .dec false, .pure (B (slices_Contains items ((i12p1 : Nat) : Int))), .dec false, .rw 91 (I ((i12p1 + 1 : Nat) : Int))] (And.intro (inc_rw (i := i12p1) (by have := zx hd12p1; omega)) (And.intro h28 (And.intro p2 (And.intro h27 (And.intro p1 (And.intro (lt_at hd12p1) trivial)))))) (ih (i12p1 + 1) v12p1_0 (w64 (v12p1_1 + x12p1)) (zE hd12p1) (zx hd12p1) (by first | assumption | omega | (exact za) | (simp only [z9] at * <;> omega) | (simp only [z5, z6, z7, z8, GS.some_l, List.length_set, List.length_append, List.length_cons, List.length_nil] at * <;> first | assumption | omega) | (simp only [z5, z6, z7, z8, GS.some_l, List.length_set, List.length_append, List.length_cons, List.length_nil, z9] at * <;> first | assumption | omega) | (simp at * <;> omega)) (by first | assumption | omega | (exact za) | (simp only [z9] at * <;> omega) | (simp only [z5, z6, z7, z8, GS.some_l, List.length_set, List.length_append, List.length_cons, List.length_nil] at * <;> first | assumption | omega) | (simp only [z5, z6, z7, z8, GS.some_l, List.length_set, List.length_append, List.length_cons, List.length_nil, z9] at * <;> first | assumption | omega) | (simp at * <;> omega))) (by kernel_rfl)

def l_OrdersGains (e : S_Estate) (items : GS Int) (width : Int) : Bool :=
  bif (r_Valid e) then
    bif (r_Right e items) then
      bif decide (width < 0) then
        true
      else
        bif ((zz e width).2.1) then
          bif (((zG e items).2) != 0) then
            false
          else
            bif (((zh e).2) != 0) then
              false
            else
              bif (((zz e width).2.2) != 0) then
                false
              else
                bif (((((zh e).1).l.length : Nat) : Int) != ((e.items.l.length : Nat) : Int)) then
                  false
                else
                  bif decide (((zz e width).1) < 0) then
                    false
                  else
                    match l_OrdersGains_12 items (((zh e).1).l) 0 0 0 with
                    | .x0 v12_0 v12_1 =>
                      bif decide (((zG e items).1) ≤ width) then
                        bif decide (v12_0 ≥ ((zz e width).1)) then
                          bif decide (v12_1 ≥ ((zz e width).1)) then
                            true
                          else
                            false
                        else
                          false
                      else
                        bif decide (v12_0 ≥ ((zz e width).1)) then
                          false
                        else
                          bif decide (v12_1 ≥ ((zz e width).1)) then
                            true
                          else
                            false
                    | .x1 i12 x12 v12_0 v12_1 =>
                      false
        else
          bif (((zG e items).2) != 0) then
            false
          else
            bif (((zh e).2) != 0) then
              false
            else
              bif (((zz e width).2.2) != 0) then
                false
              else
                bif (((((zh e).1).l.length : Nat) : Int) != ((e.items.l.length : Nat) : Int)) then
                  false
                else
                  bif decide (((zz e width).1) < 0) then
                    false
                  else
                    match l_OrdersGains_12p1 items (((zh e).1).l) 0 0 0 with
                    | .x0 v12p1_0 v12p1_1 =>
                      bif decide (((zG e items).1) ≤ width) then
                        bif decide (v12p1_0 ≥ ((zz e width).1)) then
                          bif decide (v12p1_1 ≥ ((zz e width).1)) then
                            false
                          else
                            true
                        else
                          false
                      else
                        bif decide (v12p1_0 ≥ ((zz e width).1)) then
                          false
                        else
                          bif decide (v12p1_1 ≥ ((zz e width).1)) then
                            false
                          else
                            true
                    | .x1 i12p1 x12p1 v12p1_0 v12p1_1 =>
                      false
    else
      true
  else
    true

def zJ (e : S_Estate) (items : GS Int) (width : Int) : List Ora := [.pure (B true), .dec true, .pure (B (r_Valid e)), .dec true, .pure (B (r_Right e items)), .dec true, .dec false, .pure (.tup [I ((zG e items).1), I ((zG e items).2)]), .pure (.tup [.sl (((zh e).1).nl) ((((zh e).1).l).map I) (zsl (((zh e).1).nl) 1) none, I ((zh e).2)]), .pure (.tup [I ((zz e width).1), B ((zz e width).2.1), I ((zz e width).2.2)])]

def l_OrdersGains_o2 (e : S_Estate) : List Ora := [.dec true, .dec false, .dec false, .dec false, .rw 63 (I ((((zh e).1).l.length : Nat) : Int)), .rw 66 (I ((e.items.l.length : Nat) : Int))]

def sd91 (e : S_Estate) (items : GS Int) (width : Int) (v12_0 : Int) (v12_1 : Int) : St := ⟨106, [(76, B false), (1, .sl items.nl (items.l.map I) (zsl items.nl 1) none), (2, I width), (7, I ((zG e items).1)), (11, I ((zz e width).1)), (12, B true), (14, I v12_0), (15, I v12_1), (73, .sl (((zh e).1).nl) ((((zh e).1).l).map I) (zsl (((zh e).1).nl) 1) none), (74, I ((((zh e).1).l.length : Nat) : Int)), (75, I ((((zh e).1).l.length : Nat) : Int))], [], 0, 0⟩

def l_OrdersGains_o3 (e : S_Estate) (items : GS Int) (width : Int) (v12_0 : Int) (v12_1 : Int) : List Ora := [.dec false, .dec false, .rw 74 (I ((((zh e).1).l.length : Nat) : Int)), .loop (.exit 0) (sd91 e items width v12_0 v12_1)]

def l_OrdersGains_o4 (e : S_Estate) : List Ora := [.dec false, .dec false, .dec false, .dec false, .rw 63 (I ((((zh e).1).l.length : Nat) : Int)), .rw 66 (I ((e.items.l.length : Nat) : Int))]

def sd93 (e : S_Estate) (items : GS Int) (width : Int) (v12p1_0 : Int) (v12p1_1 : Int) : St := ⟨106, [(76, B false), (1, .sl items.nl (items.l.map I) (zsl items.nl 1) none), (2, I width), (7, I ((zG e items).1)), (11, I ((zz e width).1)), (12, B false), (14, I v12p1_0), (15, I v12p1_1), (73, .sl (((zh e).1).nl) ((((zh e).1).l).map I) (zsl (((zh e).1).nl) 1) none), (74, I ((((zh e).1).l.length : Nat) : Int)), (75, I ((((zh e).1).l.length : Nat) : Int))], [], 0, 0⟩

def l_OrdersGains_o5 (e : S_Estate) (items : GS Int) (width : Int) (v12p1_0 : Int) (v12p1_1 : Int) : List Ora := [.dec false, .dec false, .rw 74 (I ((((zh e).1).l.length : Nat) : Int)), .loop (.exit 0) (sd93 e items width v12p1_0 v12p1_1)]

def sd92 (e : S_Estate) (items : GS Int) (width : Int) (i12 : Nat) (x12 : Int) (v12_0 : Int) (v12_1 : Int) : St := ⟨106, [(6, B false), (81, B true), (80, I x12), (17, I x12), (16, I ((i12 : Nat) : Int)), (79, I x12), (78, .ptr (I x12)), (77, I ((i12 : Nat) : Int)), (76, B true), (1, .sl items.nl (items.l.map I) (zsl items.nl 1) none), (2, I width), (7, I ((zG e items).1)), (11, I ((zz e width).1)), (12, B true), (14, I v12_0), (15, I v12_1), (73, .sl (((zh e).1).nl) ((((zh e).1).l).map I) (zsl (((zh e).1).nl) 1) none), (74, I ((((zh e).1).l.length : Nat) : Int)), (75, I ((i12 : Nat) : Int))], [], 0, 0⟩

def sd94 (e : S_Estate) (items : GS Int) (width : Int) (i12p1 : Nat) (x12p1 : Int) (v12p1_0 : Int) (v12p1_1 : Int) : St := ⟨106, [(6, B false), (81, B true), (80, I x12p1), (17, I x12p1), (16, I ((i12p1 : Nat) : Int)), (79, I x12p1), (78, .ptr (I x12p1)), (77, I ((i12p1 : Nat) : Int)), (76, B true), (1, .sl items.nl (items.l.map I) (zsl items.nl 1) none), (2, I width), (7, I ((zG e items).1)), (11, I ((zz e width).1)), (12, B false), (14, I v12p1_0), (15, I v12p1_1), (73, .sl (((zh e).1).nl) ((((zh e).1).l).map I) (zsl (((zh e).1).nl) 1) none), (74, I ((((zh e).1).l.length : Nat) : Int)), (75, I ((i12p1 : Nat) : Int))], [], 0, 0⟩

theorem T_l_OrdersGains (e : S_Estate) (items : GS Int) (width : Int) (hL : items.l.length ≤ 9223372036854775807) : (lim cfg).pure 9 [S_Estate.D e, GS.D I 1 items, I width] = some (B (l_OrdersGains e items width)) := by
  unfold l_OrdersGains
  cases h1 : (r_Valid e) with
  | true =>
    have g1 := valid_len h1
    cases h2 : (r_Right e items) with
    | true =>
      cases h3 : decide (width < 0) with
      | true =>
        have g3 := of_decide_eq_true h3
        exact zi [.pure (B true), .dec true, .pure (B (r_Valid e)), .dec true, .pure (B (r_Right e items)), .dec true, .dec true] (And.intro h3 (And.intro h2 (And.intro (zQ e items (by first | assumption | omega | (exact za) | (simp only [z9] at * <;> omega) | (simp only [z5, z6, z7, z8, GS.some_l, List.length_set, List.length_append, List.length_cons, List.length_nil] at * <;> first | assumption | omega) | (simp only [z5, z6, z7, z8, GS.some_l, List.length_set, List.length_append, List.length_cons, List.length_nil, z9] at * <;> first | assumption | omega) | (simp at * <;> omega))) (And.intro h1 (And.intro (zH e) (And.intro (Eq.refl true) (And.intro y7 trivial))))))) (by kernel_rfl)
      | false =>
        have g3 := of_decide_eq_false h3
        cases h4 : ((zz e width).2.1) with
        | true =>
          cases h5 : (((zG e items).2) != 0) with
          | true =>
            have g5 := zY h5
            exact zi ((zJ e items width) ++ [.dec true, .dec true]) (And.intro h5 (And.intro h4 (And.intro (zS e width (by first | assumption | omega | (exact za) | (simp only [z9] at * <;> omega) | (simp only [z5, z6, z7, z8, GS.some_l, List.length_set, List.length_append, List.length_cons, List.length_nil] at * <;> first | assumption | omega) | (simp only [z5, z6, z7, z8, GS.some_l, List.length_set, List.length_append, List.length_cons, List.length_nil, z9] at * <;> first | assumption | omega) | (simp at * <;> omega))) (And.intro (zO e) (And.intro (zy e items (by first | assumption | omega | (exact za) | (simp only [z9] at * <;> omega) | (simp only [z5, z6, z7, z8, GS.some_l, List.length_set, List.length_append, List.length_cons, List.length_nil] at * <;> first | assumption | omega) | (simp only [z5, z6, z7, z8, GS.some_l, List.length_set, List.length_append, List.length_cons, List.length_nil, z9] at * <;> first | assumption | omega) | (simp at * <;> omega))) (And.intro h3 (And.intro h2 (And.intro (zQ e items (by first | assumption | omega | (exact za) | (simp only [z9] at * <;> omega) | (simp only [z5, z6, z7, z8, GS.some_l, List.length_set, List.length_append, List.length_cons, List.length_nil] at * <;> first | assumption | omega) | (simp only [z5, z6, z7, z8, GS.some_l, List.length_set, List.length_append, List.length_cons, List.length_nil, z9] at * <;> first | assumption | omega) | (simp at * <;> omega))) (And.intro h1 (And.intro (zH e) (And.intro (Eq.refl true) (And.intro y7 trivial)))))))))))) (by kernel_rfl)
          | false =>
            have g5 := zI h5
            cases h6 : (((zh e).2) != 0) with
            | true =>
              have g6 := zY h6
              exact zi ((zJ e items width) ++ [.dec true, .dec false, .dec true]) (And.intro h6 (And.intro h5 (And.intro h4 (And.intro (zS e width (by first | assumption | omega | (exact za) | (simp only [z9] at * <;> omega) | (simp only [z5, z6, z7, z8, GS.some_l, List.length_set, List.length_append, List.length_cons, List.length_nil] at * <;> first | assumption | omega) | (simp only [z5, z6, z7, z8, GS.some_l, List.length_set, List.length_append, List.length_cons, List.length_nil, z9] at * <;> first | assumption | omega) | (simp at * <;> omega))) (And.intro (zO e) (And.intro (zy e items (by first | assumption | omega | (exact za) | (simp only [z9] at * <;> omega) | (simp only [z5, z6, z7, z8, GS.some_l, List.length_set, List.length_append, List.length_cons, List.length_nil] at * <;> first | assumption | omega) | (simp only [z5, z6, z7, z8, GS.some_l, List.length_set, List.length_append, List.length_cons, List.length_nil, z9] at * <;> first | assumption | omega) | (simp at * <;> omega))) (And.intro h3 (And.intro h2 (And.intro (zQ e items (by first | assumption | omega | (exact za) | (simp only [z9] at * <;> omega) | (simp only [z5, z6, z7, z8, GS.some_l, List.length_set, List.length_append, List.length_cons, List.length_nil] at * <;> first | assumption | omega) | (simp only [z5, z6, z7, z8, GS.some_l, List.length_set, List.length_append, List.length_cons, List.length_nil, z9] at * <;> first | assumption | omega) | (simp at * <;> omega))) (And.intro h1 (And.intro (zH e) (And.intro (Eq.refl true) (And.intro y7 trivial))))))))))))) (by kernel_rfl)
            | false =>
              have g6 := zI h6
              cases h7 : (((zz e width).2.2) != 0) with
              | true =>
                have g7 := zY h7
                exact zi ((zJ e items width) ++ [.dec true, .dec false, .dec false, .dec true]) (And.intro h7 (And.intro h6 (And.intro h5 (And.intro h4 (And.intro (zS e width (by first | assumption | omega | (exact za) | (simp only [z9] at * <;> omega) | (simp only [z5, z6, z7, z8, GS.some_l, List.length_set, List.length_append, List.length_cons, List.length_nil] at * <;> first | assumption | omega) | (simp only [z5, z6, z7, z8, GS.some_l, List.length_set, List.length_append, List.length_cons, List.length_nil, z9] at * <;> first | assumption | omega) | (simp at * <;> omega))) (And.intro (zO e) (And.intro (zy e items (by first | assumption | omega | (exact za) | (simp only [z9] at * <;> omega) | (simp only [z5, z6, z7, z8, GS.some_l, List.length_set, List.length_append, List.length_cons, List.length_nil] at * <;> first | assumption | omega) | (simp only [z5, z6, z7, z8, GS.some_l, List.length_set, List.length_append, List.length_cons, List.length_nil, z9] at * <;> first | assumption | omega) | (simp at * <;> omega))) (And.intro h3 (And.intro h2 (And.intro (zQ e items (by first | assumption | omega | (exact za) | (simp only [z9] at * <;> omega) | (simp only [z5, z6, z7, z8, GS.some_l, List.length_set, List.length_append, List.length_cons, List.length_nil] at * <;> first | assumption | omega) | (simp only [z5, z6, z7, z8, GS.some_l, List.length_set, List.length_append, List.length_cons, List.length_nil, z9] at * <;> first | assumption | omega) | (simp at * <;> omega))) (And.intro h1 (And.intro (zH e) (And.intro (Eq.refl true) (And.intro y7 trivial)))))))))))))) (by kernel_rfl)
              | false =>
                have g7 := zI h7
                cases h8 : (((((zh e).1).l.length : Nat) : Int) != ((e.items.l.length : Nat) : Int)) with
                | true =>
                  have g8 := zY h8
                  exact zi ((zJ e items width) ++ ((l_OrdersGains_o2 e) ++ [.dec true])) (And.intro h8 (And.intro (zg S_Item.D e.items) (And.intro (zg I ((zh e).1)) (And.intro h7 (And.intro h6 (And.intro h5 (And.intro h4 (And.intro (zS e width (by first | assumption | omega | (exact za) | (simp only [z9] at * <;> omega) | (simp only [z5, z6, z7, z8, GS.some_l, List.length_set, List.length_append, List.length_cons, List.length_nil] at * <;> first | assumption | omega) | (simp only [z5, z6, z7, z8, GS.some_l, List.length_set, List.length_append, List.length_cons, List.length_nil, z9] at * <;> first | assumption | omega) | (simp at * <;> omega))) (And.intro (zO e) (And.intro (zy e items (by first | assumption | omega | (exact za) | (simp only [z9] at * <;> omega) | (simp only [z5, z6, z7, z8, GS.some_l, List.length_set, List.length_append, List.length_cons, List.length_nil] at * <;> first | assumption | omega) | (simp only [z5, z6, z7, z8, GS.some_l, List.length_set, List.length_append, List.length_cons, List.length_nil, z9] at * <;> first | assumption | omega) | (simp at * <;> omega))) (And.intro h3 (And.intro h2 (And.intro (zQ e items (by first | assumption | omega | (exact za) | (simp only [z9] at * <;> omega) | (simp only [z5, z6, z7, z8, GS.some_l, List.length_set, List.length_append, List.length_cons, List.length_nil] at * <;> first | assumption | omega) | (simp only [z5, z6, z7, z8, GS.some_l, List.length_set, List.length_append, List.length_cons, List.length_nil, z9] at * <;> first | assumption | omega) | (simp at * <;> omega))) (And.intro h1 (And.intro (zH e) (And.intro (Eq.refl true) (And.intro y7 trivial))))))))))))))))) (by kernel_rfl)
                | false =>
                  have g8 := zI h8
                  cases h9 : decide (((zz e width).1) < 0) with
                  | true =>
                    have g9 := of_decide_eq_true h9
                    exact zi ((zJ e items width) ++ ((l_OrdersGains_o2 e) ++ [.dec false, .dec true])) (And.intro h9 (And.intro h8 (And.intro (zg S_Item.D e.items) (And.intro (zg I ((zh e).1)) (And.intro h7 (And.intro h6 (And.intro h5 (And.intro h4 (And.intro (zS e width (by first | assumption | omega | (exact za) | (simp only [z9] at * <;> omega) | (simp only [z5, z6, z7, z8, GS.some_l, List.length_set, List.length_append, List.length_cons, List.length_nil] at * <;> first | assumption | omega) | (simp only [z5, z6, z7, z8, GS.some_l, List.length_set, List.length_append, List.length_cons, List.length_nil, z9] at * <;> first | assumption | omega) | (simp at * <;> omega))) (And.intro (zO e) (And.intro (zy e items (by first | assumption | omega | (exact za) | (simp only [z9] at * <;> omega) | (simp only [z5, z6, z7, z8, GS.some_l, List.length_set, List.length_append, List.length_cons, List.length_nil] at * <;> first | assumption | omega) | (simp only [z5, z6, z7, z8, GS.some_l, List.length_set, List.length_append, List.length_cons, List.length_nil, z9] at * <;> first | assumption | omega) | (simp at * <;> omega))) (And.intro h3 (And.intro h2 (And.intro (zQ e items (by first | assumption | omega | (exact za) | (simp only [z9] at * <;> omega) | (simp only [z5, z6, z7, z8, GS.some_l, List.length_set, List.length_append, List.length_cons, List.length_nil] at * <;> first | assumption | omega) | (simp only [z5, z6, z7, z8, GS.some_l, List.length_set, List.length_append, List.length_cons, List.length_nil, z9] at * <;> first | assumption | omega) | (simp at * <;> omega))) (And.intro h1 (And.intro (zH e) (And.intro (Eq.refl true) (And.intro y7 trivial)))))))))))))))))) (by kernel_rfl)
                  | false =>
                    have g9 := of_decide_eq_false h9
                    cases h14 : l_OrdersGains_12 items (((zh e).1).l) 0 0 0 with
                    | x0 v12_0 v12_1 =>
                      try dsimp only
                      have p1 := (po_lr (q := lr_l_OrdersGains_12 items width ((zh e).1) ((zG e items).1) ((zz e width).1)) (lp_l_OrdersGains_12 items width ((zh e).1) ((zG e items).1) ((zz e width).1) (((zh e).1).l) 0 0 0 (List.drop_zero) (Nat.zero_le _) (by first | assumption | omega | (exact za) | (simp only [z9] at * <;> omega) | (simp only [z5, z6, z7, z8, GS.some_l, List.length_set, List.length_append, List.length_cons, List.length_nil] at * <;> first | assumption | omega) | (simp only [z5, z6, z7, z8, GS.some_l, List.length_set, List.length_append, List.length_cons, List.length_nil, z9] at * <;> first | assumption | omega) | (simp at * <;> omega)) (by first | assumption | omega | (exact za) | (simp only [z9] at * <;> omega) | (simp only [z5, z6, z7, z8, GS.some_l, List.length_set, List.length_append, List.length_cons, List.length_nil] at * <;> first | assumption | omega) | (simp only [z5, z6, z7, z8, GS.some_l, List.length_set, List.length_append, List.length_cons, List.length_nil, z9] at * <;> first | assumption | omega) | (simp at * <;> omega))) h14)
                      cases h15 : decide (((zG e items).1) ≤ width) with
                      | true =>
                        have g15 := of_decide_eq_true h15
                        cases h16 : decide (v12_0 ≥ ((zz e width).1)) with
                        | true =>
                          have g16 := of_decide_eq_true h16
                          cases h17 : decide (v12_1 ≥ ((zz e width).1)) with
                          | true =>
                            have g17 := of_decide_eq_true h17
                            exact zi ((zJ e items width) ++ ((l_OrdersGains_o2 e) ++ ((l_OrdersGains_o3 e items width v12_0 v12_1) ++ [.dec true, .dec true, .dec true, .dec true, .dec true]))) (And.intro (Eq.refl true) (And.intro h17 (And.intro (Eq.refl true) (And.intro h16 (And.intro h15 (And.intro p1 (And.intro (zg I ((zh e).1)) (And.intro h9 (And.intro h8 (And.intro (zg S_Item.D e.items) (And.intro (zg I ((zh e).1)) (And.intro h7 (And.intro h6 (And.intro h5 (And.intro h4 (And.intro (zS e width (by first | assumption | omega | (exact za) | (simp only [z9] at * <;> omega) | (simp only [z5, z6, z7, z8, GS.some_l, List.length_set, List.length_append, List.length_cons, List.length_nil] at * <;> first | assumption | omega) | (simp only [z5, z6, z7, z8, GS.some_l, List.length_set, List.length_append, List.length_cons, List.length_nil, z9] at * <;> first | assumption | omega) | (simp at * <;> omega))) (And.intro (zO e) (And.intro (zy e items (by first | assumption | omega | (exact za) | (simp only [z9] at * <;> omega) | (simp only [z5, z6, z7, z8, GS.some_l, List.length_set, List.length_append, List.length_cons, List.length_nil] at * <;> first | assumption | omega) | (simp only [z5, z6, z7, z8, GS.some_l, List.length_set, List.length_append, List.length_cons, List.length_nil, z9] at * <;> first | assumption | omega) | (simp at * <;> omega))) (And.intro h3 (And.intro h2 (And.intro (zQ e items (by first | assumption | omega | (exact za) | (simp only [z9] at * <;> omega) | (simp only [z5, z6, z7, z8, GS.some_l, List.length_set, List.length_append, List.length_cons, List.length_nil] at * <;> first | assumption | omega) | (simp only [z5, z6, z7, z8, GS.some_l, List.length_set, List.length_append, List.length_cons, List.length_nil, z9] at * <;> first | assumption | omega) | (simp at * <;> omega))) (And.intro h1 (And.intro (zH e) (And.intro (Eq.refl true) (And.intro y7 trivial))))))))))))))))))))))))) (by kernel_rfl)
                          | false =>
                            have g17 := of_decide_eq_false h17
                            exact zi ((zJ e items width) ++ ((l_OrdersGains_o2 e) ++ ((l_OrdersGains_o3 e items width v12_0 v12_1) ++ [.dec true, .dec true, .dec true, .dec false, .dec false]))) (And.intro (Eq.refl false) (And.intro h17 (And.intro (Eq.refl true) (And.intro h16 (And.intro h15 (And.intro p1 (And.intro (zg I ((zh e).1)) (And.intro h9 (And.intro h8 (And.intro (zg S_Item.D e.items) (And.intro (zg I ((zh e).1)) (And.intro h7 (And.intro h6 (And.intro h5 (And.intro h4 (And.intro (zS e width (by first | assumption | omega | (exact za) | (simp only [z9] at * <;> omega) | (simp only [z5, z6, z7, z8, GS.some_l, List.length_set, List.length_append, List.length_cons, List.length_nil] at * <;> first | assumption | omega) | (simp only [z5, z6, z7, z8, GS.some_l, List.length_set, List.length_append, List.length_cons, List.length_nil, z9] at * <;> first | assumption | omega) | (simp at * <;> omega))) (And.intro (zO e) (And.intro (zy e items (by first | assumption | omega | (exact za) | (simp only [z9] at * <;> omega) | (simp only [z5, z6, z7, z8, GS.some_l, List.length_set, List.length_append, List.length_cons, List.length_nil] at * <;> first | assumption | omega) | (simp only [z5, z6, z7, z8, GS.some_l, List.length_set, List.length_append, List.length_cons, List.length_nil, z9] at * <;> first | assumption | omega) | (simp at * <;> omega))) (And.intro h3 (And.intro h2 (And.intro (zQ e items (by first | assumption | omega | (exact za) | (simp only [z9] at * <;> omega) | (simp only [z5, z6, z7, z8, GS.some_l, List.length_set, List.length_append, List.length_cons, List.length_nil] at * <;> first | assumption | omega) | (simp only [z5, z6, z7, z8, GS.some_l, List.length_set, List.length_append, List.length_cons, List.length_nil, z9] at * <;> first | assumption | omega) | (simp at * <;> omega))) (And.intro h1 (And.intro (zH e) (And.intro (Eq.refl true) (And.intro y7 trivial))))))))))))))))))))))))) (by kernel_rfl)
                        | false =>
                          have g16 := of_decide_eq_false h16
                          exact zi ((zJ e items width) ++ ((l_OrdersGains_o2 e) ++ ((l_OrdersGains_o3 e items width v12_0 v12_1) ++ [.dec true, .dec false, .dec false]))) (And.intro (Eq.refl false) (And.intro h16 (And.intro h15 (And.intro p1 (And.intro (zg I ((zh e).1)) (And.intro h9 (And.intro h8 (And.intro (zg S_Item.D e.items) (And.intro (zg I ((zh e).1)) (And.intro h7 (And.intro h6 (And.intro h5 (And.intro h4 (And.intro (zS e width (by first | assumption | omega | (exact za) | (simp only [z9] at * <;> omega) | (simp only [z5, z6, z7, z8, GS.some_l, List.length_set, List.length_append, List.length_cons, List.length_nil] at * <;> first | assumption | omega) | (simp only [z5, z6, z7, z8, GS.some_l, List.length_set, List.length_append, List.length_cons, List.length_nil, z9] at * <;> first | assumption | omega) | (simp at * <;> omega))) (And.intro (zO e) (And.intro (zy e items (by first | assumption | omega | (exact za) | (simp only [z9] at * <;> omega) | (simp only [z5, z6, z7, z8, GS.some_l, List.length_set, List.length_append, List.length_cons, List.length_nil] at * <;> first | assumption | omega) | (simp only [z5, z6, z7, z8, GS.some_l, List.length_set, List.length_append, List.length_cons, List.length_nil, z9] at * <;> first | assumption | omega) | (simp at * <;> omega))) (And.intro h3 (And.intro h2 (And.intro (zQ e items (by first | assumption | omega | (exact za) | (simp only [z9] at * <;> omega) | (simp only [z5, z6, z7, z8, GS.some_l, List.length_set, List.length_append, List.length_cons, List.length_nil] at * <;> first | assumption | omega) | (simp only [z5, z6, z7, z8, GS.some_l, List.length_set, List.length_append, List.length_cons, List.length_nil, z9] at * <;> first | assumption | omega) | (simp at * <;> omega))) (And.intro h1 (And.intro (zH e) (And.intro (Eq.refl true) (And.intro y7 trivial))))))))))))))))))))))) (by kernel_rfl)
                      | false =>
                        have g15 := of_decide_eq_false h15
                        cases h18 : decide (v12_0 ≥ ((zz e width).1)) with
                        | true =>
                          have g18 := of_decide_eq_true h18
                          exact zi ((zJ e items width) ++ ((l_OrdersGains_o2 e) ++ ((l_OrdersGains_o3 e items width v12_0 v12_1) ++ [.dec false, .dec true, .dec false]))) (And.intro (Eq.refl false) (And.intro h18 (And.intro h15 (And.intro p1 (And.intro (zg I ((zh e).1)) (And.intro h9 (And.intro h8 (And.intro (zg S_Item.D e.items) (And.intro (zg I ((zh e).1)) (And.intro h7 (And.intro h6 (And.intro h5 (And.intro h4 (And.intro (zS e width (by first | assumption | omega | (exact za) | (simp only [z9] at * <;> omega) | (simp only [z5, z6, z7, z8, GS.some_l, List.length_set, List.length_append, List.length_cons, List.length_nil] at * <;> first | assumption | omega) | (simp only [z5, z6, z7, z8, GS.some_l, List.length_set, List.length_append, List.length_cons, List.length_nil, z9] at * <;> first | assumption | omega) | (simp at * <;> omega))) (And.intro (zO e) (And.intro (zy e items (by first | assumption | omega | (exact za) | (simp only [z9] at * <;> omega) | (simp only [z5, z6, z7, z8, GS.some_l, List.length_set, List.length_append, List.length_cons, List.length_nil] at * <;> first | assumption | omega) | (simp only [z5, z6, z7, z8, GS.some_l, List.length_set, List.length_append, List.length_cons, List.length_nil, z9] at * <;> first | assumption | omega) | (simp at * <;> omega))) (And.intro h3 (And.intro h2 (And.intro (zQ e items (by first | assumption | omega | (exact za) | (simp only [z9] at * <;> omega) | (simp only [z5, z6, z7, z8, GS.some_l, List.length_set, List.length_append, List.length_cons, List.length_nil] at * <;> first | assumption | omega) | (simp only [z5, z6, z7, z8, GS.some_l, List.length_set, List.length_append, List.length_cons, List.length_nil, z9] at * <;> first | assumption | omega) | (simp at * <;> omega))) (And.intro h1 (And.intro (zH e) (And.intro (Eq.refl true) (And.intro y7 trivial))))))))))))))))))))))) (by kernel_rfl)
                        | false =>
                          have g18 := of_decide_eq_false h18
                          cases h19 : decide (v12_1 ≥ ((zz e width).1)) with
                          | true =>
                            have g19 := of_decide_eq_true h19
                            exact zi ((zJ e items width) ++ ((l_OrdersGains_o2 e) ++ ((l_OrdersGains_o3 e items width v12_0 v12_1) ++ [.dec false, .dec false, .dec true, .dec true, .dec true]))) (And.intro (Eq.refl true) (And.intro h19 (And.intro (Eq.refl true) (And.intro h18 (And.intro h15 (And.intro p1 (And.intro (zg I ((zh e).1)) (And.intro h9 (And.intro h8 (And.intro (zg S_Item.D e.items) (And.intro (zg I ((zh e).1)) (And.intro h7 (And.intro h6 (And.intro h5 (And.intro h4 (And.intro (zS e width (by first | assumption | omega | (exact za) | (simp only [z9] at * <;> omega) | (simp only [z5, z6, z7, z8, GS.some_l, List.length_set, List.length_append, List.length_cons, List.length_nil] at * <;> first | assumption | omega) | (simp only [z5, z6, z7, z8, GS.some_l, List.length_set, List.length_append, List.length_cons, List.length_nil, z9] at * <;> first | assumption | omega) | (simp at * <;> omega))) (And.intro (zO e) (And.intro (zy e items (by first | assumption | omega | (exact za) | (simp only [z9] at * <;> omega) | (simp only [z5, z6, z7, z8, GS.some_l, List.length_set, List.length_append, List.length_cons, List.length_nil] at * <;> first | assumption | omega) | (simp only [z5, z6, z7, z8, GS.some_l, List.length_set, List.length_append, List.length_cons, List.length_nil, z9] at * <;> first | assumption | omega) | (simp at * <;> omega))) (And.intro h3 (And.intro h2 (And.intro (zQ e items (by first | assumption | omega | (exact za) | (simp only [z9] at * <;> omega) | (simp only [z5, z6, z7, z8, GS.some_l, List.length_set, List.length_append, List.length_cons, List.length_nil] at * <;> first | assumption | omega) | (simp only [z5, z6, z7, z8, GS.some_l, List.length_set, List.length_append, List.length_cons, List.length_nil, z9] at * <;> first | assumption | omega) | (simp at * <;> omega))) (And.intro h1 (And.intro (zH e) (And.intro (Eq.refl true) (And.intro y7 trivial))))))))))))))))))))))))) (by kernel_rfl)
                          | false =>
                            have g19 := of_decide_eq_false h19
                            exact zi ((zJ e items width) ++ ((l_OrdersGains_o2 e) ++ ((l_OrdersGains_o3 e items width v12_0 v12_1) ++ [.dec false, .dec false, .dec true, .dec false, .dec false]))) (And.intro (Eq.refl false) (And.intro h19 (And.intro (Eq.refl true) (And.intro h18 (And.intro h15 (And.intro p1 (And.intro (zg I ((zh e).1)) (And.intro h9 (And.intro h8 (And.intro (zg S_Item.D e.items) (And.intro (zg I ((zh e).1)) (And.intro h7 (And.intro h6 (And.intro h5 (And.intro h4 (And.intro (zS e width (by first | assumption | omega | (exact za) | (simp only [z9] at * <;> omega) | (simp only [z5, z6, z7, z8, GS.some_l, List.length_set, List.length_append, List.length_cons, List.length_nil] at * <;> first | assumption | omega) | (simp only [z5, z6, z7, z8, GS.some_l, List.length_set, List.length_append, List.length_cons, List.length_nil, z9] at * <;> first | assumption | omega) | (simp at * <;> omega))) (And.intro (zO e) (And.intro (zy e items (by first | assumption | omega | (exact za) | (simp only [z9] at * <;> omega) | (simp only [z5, z6, z7, z8, GS.some_l, List.length_set, List.length_append, List.length_cons, List.length_nil] at * <;> first | assumption | omega) | (simp only [z5, z6, z7, z8, GS.some_l, List.length_set, List.length_append, List.length_cons, List.length_nil, z9] at * <;> first | assumption | omega) | (simp at * <;> omega))) (And.intro h3 (And.intro h2 (And.intro (zQ e items (by first | assumption | omega | (exact za) | (simp only [z9] at * <;> omega) | (simp only [z5, z6, z7, z8, GS.some_l, List.length_set, List.length_append, List.length_cons, List.length_nil] at * <;> first | assumption | omega) | (simp only [z5, z6, z7, z8, GS.some_l, List.length_set, List.length_append, List.length_cons, List.length_nil, z9] at * <;> first | assumption | omega) | (simp at * <;> omega))) (And.intro h1 (And.intro (zH e) (And.intro (Eq.refl true) (And.intro y7 trivial))))))))))))))))))))))))) (by kernel_rfl)
                    | x1 i12 x12 v12_0 v12_1 =>
                      try dsimp only
                      exact zi ((zJ e items width) ++ ((l_OrdersGains_o2 e) ++ [.dec false, .dec false, .rw 74 (I ((((zh e).1).l.length : Nat) : Int)), .loop .ret (sd92 e items width i12 x12 v12_0 v12_1)])) (And.intro (po_lr (q := lr_l_OrdersGains_12 items width ((zh e).1) ((zG e items).1) ((zz e width).1)) (lp_l_OrdersGains_12 items width ((zh e).1) ((zG e items).1) ((zz e width).1) (((zh e).1).l) 0 0 0 (List.drop_zero) (Nat.zero_le _) (by first | assumption | omega | (exact za) | (simp only [z9] at * <;> omega) | (simp only [z5, z6, z7, z8, GS.some_l, List.length_set, List.length_append, List.length_cons, List.length_nil] at * <;> first | assumption | omega) | (simp only [z5, z6, z7, z8, GS.some_l, List.length_set, List.length_append, List.length_cons, List.length_nil, z9] at * <;> first | assumption | omega) | (simp at * <;> omega)) (by first | assumption | omega | (exact za) | (simp only [z9] at * <;> omega) | (simp only [z5, z6, z7, z8, GS.some_l, List.length_set, List.length_append, List.length_cons, List.length_nil] at * <;> first | assumption | omega) | (simp only [z5, z6, z7, z8, GS.some_l, List.length_set, List.length_append, List.length_cons, List.length_nil, z9] at * <;> first | assumption | omega) | (simp at * <;> omega))) h14) (And.intro (zg I ((zh e).1)) (And.intro h9 (And.intro h8 (And.intro (zg S_Item.D e.items) (And.intro (zg I ((zh e).1)) (And.intro h7 (And.intro h6 (And.intro h5 (And.intro h4 (And.intro (zS e width (by first | assumption | omega | (exact za) | (simp only [z9] at * <;> omega) | (simp only [z5, z6, z7, z8, GS.some_l, List.length_set, List.length_append, List.length_cons, List.length_nil] at * <;> first | assumption | omega) | (simp only [z5, z6, z7, z8, GS.some_l, List.length_set, List.length_append, List.length_cons, List.length_nil, z9] at * <;> first | assumption | omega) | (simp at * <;> omega))) (And.intro (zO e) (And.intro (zy e items (by first | assumption | omega | (exact za) | (simp only [z9] at * <;> omega) | (simp only [z5, z6, z7, z8, GS.some_l, List.length_set, List.length_append, List.length_cons, List.length_nil] at * <;> first | assumption | omega) | (simp only [z5, z6, z7, z8, GS.some_l, List.length_set, List.length_append, List.length_cons, List.length_nil, z9] at * <;> first | assumption | omega) | (simp at * <;> omega))) (And.intro h3 (And.intro h2 (And.intro (zQ e items (by first | assumption | omega | (exact za) | (simp only [z9] at * <;> omega) | (simp only [z5, z6, z7, z8, GS.some_l, List.length_set, List.length_append, List.length_cons, List.length_nil] at * <;> first | assumption | omega) | (simp only [z5, z6, z7, z8, GS.some_l, List.length_set, List.length_append, List.length_cons, List.length_nil, z9] at * <;> first | assumption | omega) | (simp at * <;> omega))) (And.intro h1 (And.intro (zH e) (And.intro (Eq.refl true) (And.intro y7 trivial)))))))))))))))))))) (by kernel_rfl)
        | false =>
          cases h20 : (((zG e items).2) != 0) with
          | true =>
            have g20 := zY h20
            exact zi ((zJ e items width) ++ [.dec false, .dec true]) (And.intro h20 (And.intro h4 (And.intro (zS e width (by first | assumption | omega | (exact za) | (simp only [z9] at * <;> omega) | (simp only [z5, z6, z7, z8, GS.some_l, List.length_set, List.length_append, List.length_cons, List.length_nil] at * <;> first | assumption | omega) | (simp only [z5, z6, z7, z8, GS.some_l, List.length_set, List.length_append, List.length_cons, List.length_nil, z9] at * <;> first | assumption | omega) | (simp at * <;> omega))) (And.intro (zO e) (And.intro (zy e items (by first | assumption | omega | (exact za) | (simp only [z9] at * <;> omega) | (simp only [z5, z6, z7, z8, GS.some_l, List.length_set, List.length_append, List.length_cons, List.length_nil] at * <;> first | assumption | omega) | (simp only [z5, z6, z7, z8, GS.some_l, List.length_set, List.length_append, List.length_cons, List.length_nil, z9] at * <;> first | assumption | omega) | (simp at * <;> omega))) (And.intro h3 (And.intro h2 (And.intro (zQ e items (by first | assumption | omega | (exact za) | (simp only [z9] at * <;> omega) | (simp only [z5, z6, z7, z8, GS.some_l, List.length_set, List.length_append, List.length_cons, List.length_nil] at * <;> first | assumption | omega) | (simp only [z5, z6, z7, z8, GS.some_l, List.length_set, List.length_append, List.length_cons, List.length_nil, z9] at * <;> first | assumption | omega) | (simp at * <;> omega))) (And.intro h1 (And.intro (zH e) (And.intro (Eq.refl true) (And.intro y7 trivial)))))))))))) (by kernel_rfl)
          | false =>
            have g20 := zI h20
            cases h21 : (((zh e).2) != 0) with
            | true =>
              have g21 := zY h21
              exact zi ((zJ e items width) ++ [.dec false, .dec false, .dec true]) (And.intro h21 (And.intro h20 (And.intro h4 (And.intro (zS e width (by first | assumption | omega | (exact za) | (simp only [z9] at * <;> omega) | (simp only [z5, z6, z7, z8, GS.some_l, List.length_set, List.length_append, List.length_cons, List.length_nil] at * <;> first | assumption | omega) | (simp only [z5, z6, z7, z8, GS.some_l, List.length_set, List.length_append, List.length_cons, List.length_nil, z9] at * <;> first | assumption | omega) | (simp at * <;> omega))) (And.intro (zO e) (And.intro (zy e items (by first | assumption | omega | (exact za) | (simp only [z9] at * <;> omega) | (simp only [z5, z6, z7, z8, GS.some_l, List.length_set, List.length_append, List.length_cons, List.length_nil] at * <;> first | assumption | omega) | (simp only [z5, z6, z7, z8, GS.some_l, List.length_set, List.length_append, List.length_cons, List.length_nil, z9] at * <;> first | assumption | omega) | (simp at * <;> omega))) (And.intro h3 (And.intro h2 (And.intro (zQ e items (by first | assumption | omega | (exact za) | (simp only [z9] at * <;> omega) | (simp only [z5, z6, z7, z8, GS.some_l, List.length_set, List.length_append, List.length_cons, List.length_nil] at * <;> first | assumption | omega) | (simp only [z5, z6, z7, z8, GS.some_l, List.length_set, List.length_append, List.length_cons, List.length_nil, z9] at * <;> first | assumption | omega) | (simp at * <;> omega))) (And.intro h1 (And.intro (zH e) (And.intro (Eq.refl true) (And.intro y7 trivial))))))))))))) (by kernel_rfl)
            | false =>
              have g21 := zI h21
              cases h22 : (((zz e width).2.2) != 0) with
              | true =>
                have g22 := zY h22
                exact zi ((zJ e items width) ++ [.dec false, .dec false, .dec false, .dec true]) (And.intro h22 (And.intro h21 (And.intro h20 (And.intro h4 (And.intro (zS e width (by first | assumption | omega | (exact za) | (simp only [z9] at * <;> omega) | (simp only [z5, z6, z7, z8, GS.some_l, List.length_set, List.length_append, List.length_cons, List.length_nil] at * <;> first | assumption | omega) | (simp only [z5, z6, z7, z8, GS.some_l, List.length_set, List.length_append, List.length_cons, List.length_nil, z9] at * <;> first | assumption | omega) | (simp at * <;> omega))) (And.intro (zO e) (And.intro (zy e items (by first | assumption | omega | (exact za) | (simp only [z9] at * <;> omega) | (simp only [z5, z6, z7, z8, GS.some_l, List.length_set, List.length_append, List.length_cons, List.length_nil] at * <;> first | assumption | omega) | (simp only [z5, z6, z7, z8, GS.some_l, List.length_set, List.length_append, List.length_cons, List.length_nil, z9] at * <;> first | assumption | omega) | (simp at * <;> omega))) (And.intro h3 (And.intro h2 (And.intro (zQ e items (by first | assumption | omega | (exact za) | (simp only [z9] at * <;> omega) | (simp only [z5, z6, z7, z8, GS.some_l, List.length_set, List.length_append, List.length_cons, List.length_nil] at * <;> first | assumption | omega) | (simp only [z5, z6, z7, z8, GS.some_l, List.length_set, List.length_append, List.length_cons, List.length_nil, z9] at * <;> first | assumption | omega) | (simp at * <;> omega))) (And.intro h1 (And.intro (zH e) (And.intro (Eq.refl true) (And.intro y7 trivial)))))))))))))) (by kernel_rfl)
              | false =>
                have g22 := zI h22
                cases h23 : (((((zh e).1).l.length : Nat) : Int) != ((e.items.l.length : Nat) : Int)) with
                | true =>
                  have g23 := zY h23
                  exact zi ((zJ e items width) ++ ((l_OrdersGains_o4 e) ++ [.dec true])) (And.intro h23 (And.intro (zg S_Item.D e.items) (And.intro (zg I ((zh e).1)) (And.intro h22 (And.intro h21 (And.intro h20 (And.intro h4 (And.intro (zS e width (by first | assumption | omega | (exact za) | (simp only [z9] at * <;> omega) | (simp only [z5, z6, z7, z8, GS.some_l, List.length_set, List.length_append, List.length_cons, List.length_nil] at * <;> first | assumption | omega) | (simp only [z5, z6, z7, z8, GS.some_l, List.length_set, List.length_append, List.length_cons, List.length_nil, z9] at * <;> first | assumption | omega) | (simp at * <;> omega))) (And.intro (zO e) (And.intro (zy e items (by first | assumption | omega | (exact za) | (simp only [z9] at * <;> omega) | (simp only [z5, z6, z7, z8, GS.some_l, List.length_set, List.length_append, List.length_cons, List.length_nil] at * <;> first | assumption | omega) | (simp only [z5, z6, z7, z8, GS.some_l, List.length_set, List.length_append, List.length_cons, List.length_nil, z9] at * <;> first | assumption | omega) | (simp at * <;> omega))) (And.intro h3 (And.intro h2 (And.intro (zQ e items (by first | assumption | omega | (exact za) | (simp only [z9] at * <;> omega) | (simp only [z5, z6, z7, z8, GS.some_l, List.length_set, List.length_append, List.length_cons, List.length_nil] at * <;> first | assumption | omega) | (simp only [z5, z6, z7, z8, GS.some_l, List.length_set, List.length_append, List.length_cons, List.length_nil, z9] at * <;> first | assumption | omega) | (simp at * <;> omega))) (And.intro h1 (And.intro (zH e) (And.intro (Eq.refl true) (And.intro y7 trivial))))))))))))))))) (by kernel_rfl)
                | false =>
                  have g23 := zI h23
                  cases h24 : decide (((zz e width).1) < 0) with
                  | true =>
                    have g24 := of_decide_eq_true h24
                    exact zi ((zJ e items width) ++ ((l_OrdersGains_o4 e) ++ [.dec false, .dec true])) (And.intro h24 (And.intro h23 (And.intro (zg S_Item.D e.items) (And.intro (zg I ((zh e).1)) (And.intro h22 (And.intro h21 (And.intro h20 (And.intro h4 (And.intro (zS e width (by first | assumption | omega | (exact za) | (simp only [z9] at * <;> omega) | (simp only [z5, z6, z7, z8, GS.some_l, List.length_set, List.length_append, List.length_cons, List.length_nil] at * <;> first | assumption | omega) | (simp only [z5, z6, z7, z8, GS.some_l, List.length_set, List.length_append, List.length_cons, List.length_nil, z9] at * <;> first | assumption | omega) | (simp at * <;> omega))) (And.intro (zO e) (And.intro (zy e items (by first | assumption | omega | (exact za) | (simp only [z9] at * <;> omega) | (simp only [z5, z6, z7, z8, GS.some_l, List.length_set, List.length_append, List.length_cons, List.length_nil] at * <;> first | assumption | omega) | (simp only [z5, z6, z7, z8, GS.some_l, List.length_set, List.length_append, List.length_cons, List.length_nil, z9] at * <;> first | assumption | omega) | (simp at * <;> omega))) (And.intro h3 (And.intro h2 (And.intro (zQ e items (by first | assumption | omega | (exact za) | (simp only [z9] at * <;> omega) | (simp only [z5, z6, z7, z8, GS.some_l, List.length_set, List.length_append, List.length_cons, List.length_nil] at * <;> first | assumption | omega) | (simp only [z5, z6, z7, z8, GS.some_l, List.length_set, List.length_append, List.length_cons, List.length_nil, z9] at * <;> first | assumption | omega) | (simp at * <;> omega))) (And.intro h1 (And.intro (zH e) (And.intro (Eq.refl true) (And.intro y7 trivial)))))))))))))))))) (by kernel_rfl)
                  | false =>
                    have g24 := of_decide_eq_false h24
                    cases h29 : l_OrdersGains_12p1 items (((zh e).1).l) 0 0 0 with
                    | x0 v12p1_0 v12p1_1 =>
                      try dsimp only
                      have p2 := (po_lr (q := lr_l_OrdersGains_12p1 items width ((zh e).1) ((zG e items).1) ((zz e width).1)) (lp_l_OrdersGains_12p1 items width ((zh e).1) ((zG e items).1) ((zz e width).1) (((zh e).1).l) 0 0 0 (List.drop_zero) (Nat.zero_le _) (by first | assumption | omega | (exact za) | (simp only [z9] at * <;> omega) | (simp only [z5, z6, z7, z8, GS.some_l, List.length_set, List.length_append, List.length_cons, List.length_nil] at * <;> first | assumption | omega) | (simp only [z5, z6, z7, z8, GS.some_l, List.length_set, List.length_append, List.length_cons, List.length_nil, z9] at * <;> first | assumption | omega) | (simp at * <;> omega)) (by first | assumption | omega | (exact za) | (simp only [z9] at * <;> omega) | (simp only [z5, z6, z7, z8, GS.some_l, List.length_set, List.length_append, List.length_cons, List.length_nil] at * <;> first | assumption | omega) | (simp only [z5, z6, z7, z8, GS.some_l, List.length_set, List.length_append, List.length_cons, List.length_nil, z9] at * <;> first | assumption | omega) | (simp at * <;> omega))) h29)
                      cases h30 : decide (((zG e items).1) ≤ width) with
                      | true =>
                        have g30 := of_decide_eq_true h30
                        cases h31 : decide (v12p1_0 ≥ ((zz e width).1)) with
                        | true =>
                          have g31 := of_decide_eq_true h31
                          cases h32 : decide (v12p1_1 ≥ ((zz e width).1)) with
                          | true =>
                            have g32 := of_decide_eq_true h32
                            exact zi ((zJ e items width) ++ ((l_OrdersGains_o4 e) ++ ((l_OrdersGains_o5 e items width v12p1_0 v12p1_1) ++ [.dec true, .dec true, .dec true, .dec true, .dec false]))) (And.intro (Eq.refl false) (And.intro h32 (And.intro (Eq.refl true) (And.intro h31 (And.intro h30 (And.intro p2 (And.intro (zg I ((zh e).1)) (And.intro h24 (And.intro h23 (And.intro (zg S_Item.D e.items) (And.intro (zg I ((zh e).1)) (And.intro h22 (And.intro h21 (And.intro h20 (And.intro h4 (And.intro (zS e width (by first | assumption | omega | (exact za) | (simp only [z9] at * <;> omega) | (simp only [z5, z6, z7, z8, GS.some_l, List.length_set, List.length_append, List.length_cons, List.length_nil] at * <;> first | assumption | omega) | (simp only [z5, z6, z7, z8, GS.some_l, List.length_set, List.length_append, List.length_cons, List.length_nil, z9] at * <;> first | assumption | omega) | (simp at * <;> omega))) (And.intro (zO e) (And.intro (zy e items (by first | assumption | omega | (exact za) | (simp only [z9] at * <;> omega) | (simp only [z5, z6, z7, z8, GS.some_l, List.length_set, List.length_append, List.length_cons, List.length_nil] at * <;> first | assumption | omega) | (simp only [z5, z6, z7, z8, GS.some_l, List.length_set, List.length_append, List.length_cons, List.length_nil, z9] at * <;> first | assumption | omega) | (simp at * <;> omega))) (And.intro h3 (And.intro h2 (And.intro (zQ e items (by first | assumption | omega | (exact za) | (simp only [z9] at * <;> omega) | (simp only [z5, z6, z7, z8, GS.some_l, List.length_set, List.length_append, List.length_cons, List.length_nil] at * <;> first | assumption | omega) | (simp only [z5, z6, z7, z8, GS.some_l, List.length_set, List.length_append, List.length_cons, List.length_nil, z9] at * <;> first | assumption | omega) | (simp at * <;> omega))) (And.intro h1 (And.intro (zH e) (And.intro (Eq.refl true) (And.intro y7 trivial))))))))))))))))))))))))) (by kernel_rfl)
                          | false =>
                            have g32 := of_decide_eq_false h32
                            exact zi ((zJ e items width) ++ ((l_OrdersGains_o4 e) ++ ((l_OrdersGains_o5 e items width v12p1_0 v12p1_1) ++ [.dec true, .dec true, .dec true, .dec false, .dec true]))) (And.intro (Eq.refl true) (And.intro h32 (And.intro (Eq.refl true) (And.intro h31 (And.intro h30 (And.intro p2 (And.intro (zg I ((zh e).1)) (And.intro h24 (And.intro h23 (And.intro (zg S_Item.D e.items) (And.intro (zg I ((zh e).1)) (And.intro h22 (And.intro h21 (And.intro h20 (And.intro h4 (And.intro (zS e width (by first | assumption | omega | (exact za) | (simp only [z9] at * <;> omega) | (simp only [z5, z6, z7, z8, GS.some_l, List.length_set, List.length_append, List.length_cons, List.length_nil] at * <;> first | assumption | omega) | (simp only [z5, z6, z7, z8, GS.some_l, List.length_set, List.length_append, List.length_cons, List.length_nil, z9] at * <;> first | assumption | omega) | (simp at * <;> omega))) (And.intro (zO e) (And.intro (zy e items (by first | assumption | omega | (exact za) | (simp only [z9] at * <;> omega) | (simp only [z5, z6, z7, z8, GS.some_l, List.length_set, List.length_append, List.length_cons, List.length_nil] at * <;> first | assumption | omega) | (simp only [z5, z6, z7, z8, GS.some_l, List.length_set, List.length_append, List.length_cons, List.length_nil, z9] at * <;> first | assumption | omega) | (simp at * <;> omega))) (And.intro h3 (And.intro h2 (And.intro (zQ e items (by first | assumption | omega | (exact za) | (simp only [z9] at * <;> omega) | (simp only [z5, z6, z7, z8, GS.some_l, List.length_set, List.length_append, List.length_cons, List.length_nil] at * <;> first | assumption | omega) | (simp only [z5, z6, z7, z8, GS.some_l, List.length_set, List.length_append, List.length_cons, List.length_nil, z9] at * <;> first | assumption | omega) | (simp at * <;> omega))) (And.intro h1 (And.intro (zH e) (And.intro (Eq.refl true) (And.intro y7 trivial))))))))))))))))))))))))) (by kernel_rfl)
                        | false =>
                          have g31 := of_decide_eq_false h31
                          exact zi ((zJ e items width) ++ ((l_OrdersGains_o4 e) ++ ((l_OrdersGains_o5 e items width v12p1_0 v12p1_1) ++ [.dec true, .dec false, .dec false]))) (And.intro (Eq.refl false) (And.intro h31 (And.intro h30 (And.intro p2 (And.intro (zg I ((zh e).1)) (And.intro h24 (And.intro h23 (And.intro (zg S_Item.D e.items) (And.intro (zg I ((zh e).1)) (And.intro h22 (And.intro h21 (And.intro h20 (And.intro h4 (And.intro (zS e width (by first | assumption | omega | (exact za) | (simp only [z9] at * <;> omega) | (simp only [z5, z6, z7, z8, GS.some_l, List.length_set, List.length_append, List.length_cons, List.length_nil] at * <;> first | assumption | omega) | (simp only [z5, z6, z7, z8, GS.some_l, List.length_set, List.length_append, List.length_cons, List.length_nil, z9] at * <;> first | assumption | omega) | (simp at * <;> omega))) (And.intro (zO e) (And.intro (zy e items (by first | assumption | omega | (exact za) | (simp only [z9] at * <;> omega) | (simp only [z5, z6, z7, z8, GS.some_l, List.length_set, List.length_append, List.length_cons, List.length_nil] at * <;> first | assumption | omega) | (simp only [z5, z6, z7, z8, GS.some_l, List.length_set, List.length_append, List.length_cons, List.length_nil, z9] at * <;> first | assumption | omega) | (simp at * <;> omega))) (And.intro h3 (And.intro h2 (And.intro (zQ e items (by first | assumption | omega | (exact za) | (simp only [z9] at * <;> omega) | (simp only [z5, z6, z7, z8, GS.some_l, List.length_set, List.length_append, List.length_cons, List.length_nil] at * <;> first | assumption | omega) | (simp only [z5, z6, z7, z8, GS.some_l, List.length_set, List.length_append, List.length_cons, List.length_nil, z9] at * <;> first | assumption | omega) | (simp at * <;> omega))) (And.intro h1 (And.intro (zH e) (And.intro (Eq.refl true) (And.intro y7 trivial))))))))))))))))))))))) (by kernel_rfl)
                      | false =>
                        have g30 := of_decide_eq_false h30
                        cases h33 : decide (v12p1_0 ≥ ((zz e width).1)) with
                        | true =>
                          have g33 := of_decide_eq_true h33
                          exact zi ((zJ e items width) ++ ((l_OrdersGains_o4 e) ++ ((l_OrdersGains_o5 e items width v12p1_0 v12p1_1) ++ [.dec false, .dec true, .dec false]))) (And.intro (Eq.refl false) (And.intro h33 (And.intro h30 (And.intro p2 (And.intro (zg I ((zh e).1)) (And.intro h24 (And.intro h23 (And.intro (zg S_Item.D e.items) (And.intro (zg I ((zh e).1)) (And.intro h22 (And.intro h21 (And.intro h20 (And.intro h4 (And.intro (zS e width (by first | assumption | omega | (exact za) | (simp only [z9] at * <;> omega) | (simp only [z5, z6, z7, z8, GS.some_l, List.length_set, List.length_append, List.length_cons, List.length_nil] at * <;> first | assumption | omega) | (simp only [z5, z6, z7, z8, GS.some_l, List.length_set, List.length_append, List.length_cons, List.length_nil, z9] at * <;> first | assumption | omega) | (simp at * <;> omega))) (And.intro (zO e) (And.intro (zy e items (by first | assumption | omega | (exact za) | (simp only [z9] at * <;> omega) | (simp only [z5, z6, z7, z8, GS.some_l, List.length_set, List.length_append, List.length_cons, List.length_nil] at * <;> first | assumption | omega) | (simp only [z5, z6, z7, z8, GS.some_l, List.length_set, List.length_append, List.length_cons, List.length_nil, z9] at * <;> first | assumption | omega) | (simp at * <;> omega))) (And.intro h3 (And.intro h2 (And.intro (zQ e items (by first | assumption | omega | (exact za) | (simp only [z9] at * <;> omega) | (simp only [z5, z6, z7, z8, GS.some_l, List.length_set, List.length_append, List.length_cons, List.length_nil] at * <;> first | assumption | omega) | (simp only [z5, z6, z7, z8, GS.some_l, List.length_set, List.length_append, List.length_cons, List.length_nil, z9] at * <;> first | assumption | omega) | (simp at * <;> omega))) (And.intro h1 (And.intro (zH e) (And.intro (Eq.refl true) (And.intro y7 trivial))))))))))))))))))))))) (by kernel_rfl)
                        | false =>
                          have g33 := of_decide_eq_false h33
                          cases h34 : decide (v12p1_1 ≥ ((zz e width).1)) with
                          | true =>
                            have g34 := of_decide_eq_true h34
                            exact zi ((zJ e items width) ++ ((l_OrdersGains_o4 e) ++ ((l_OrdersGains_o5 e items width v12p1_0 v12p1_1) ++ [.dec false, .dec false, .dec true, .dec true, .dec false]))) (And.intro (Eq.refl false) (And.intro h34 (And.intro (Eq.refl true) (And.intro h33 (And.intro h30 (And.intro p2 (And.intro (zg I ((zh e).1)) (And.intro h24 (And.intro h23 (And.intro (zg S_Item.D e.items) (And.intro (zg I ((zh e).1)) (And.intro h22 (And.intro h21 (And.intro h20 (And.intro h4 (And.intro (zS e width (by first | assumption | omega | (exact za) | (simp only [z9] at * <;> omega) | (simp only [z5, z6, z7, z8, GS.some_l, List.length_set, List.length_append, List.length_cons, List.length_nil] at * <;> first | assumption | omega) | (simp only [z5, z6, z7, z8, GS.some_l, List.length_set, List.length_append, List.length_cons, List.length_nil, z9] at * <;> first | assumption | omega) | (simp at * <;> omega))) (And.intro (zO e) (And.intro (zy e items (by first | assumption | omega | (exact za) | (simp only [z9] at * <;> omega) | (simp only [z5, z6, z7, z8, GS.some_l, List.length_set, List.length_append, List.length_cons, List.length_nil] at * <;> first | assumption | omega) | (simp only [z5, z6, z7, z8, GS.some_l, List.length_set, List.length_append, List.length_cons, List.length_nil, z9] at * <;> first | assumption | omega) | (simp at * <;> omega))) (And.intro h3 (And.intro h2 (And.intro (zQ e items (by first | assumption | omega | (exact za) | (simp only [z9] at * <;> omega) | (simp only [z5, z6, z7, z8, GS.some_l, List.length_set, List.length_append, List.length_cons, List.length_nil] at * <;> first | assumption | omega) | (simp only [z5, z6, z7, z8, GS.some_l, List.length_set, List.length_append, List.length_cons, List.length_nil, z9] at * <;> first | assumption | omega) | (simp at * <;> omega))) (And.intro h1 (And.intro (zH e) (And.intro (Eq.refl true) (And.intro y7 trivial))))))))))))))))))))))))) (by kernel_rfl)
                          | false =>
                            have g34 := of_decide_eq_false h34
                            exact zi ((zJ e items width) ++ ((l_OrdersGains_o4 e) ++ ((l_OrdersGains_o5 e items width v12p1_0 v12p1_1) ++ [.dec false, .dec false, .dec true, .dec false, .dec true]))) (And.intro (Eq.refl true) (And.intro h34 (And.intro (Eq.refl true) (And.intro h33 (And.intro h30 (And.intro p2 (And.intro (zg I ((zh e).1)) (And.intro h24 (And.intro h23 (And.intro (zg S_Item.D e.items) (And.intro (zg I ((zh e).1)) (And.intro h22 (And.intro h21 (And.intro h20 (And.intro h4 (And.intro (zS e width (by first | assumption | omega | (exact za) | (simp only [z9] at * <;> omega) | (simp only [z5, z6, z7, z8, GS.some_l, List.length_set, List.length_append, List.length_cons, List.length_nil] at * <;> first | assumption | omega) | (simp only [z5, z6, z7, z8, GS.some_l, List.length_set, List.length_append, List.length_cons, List.length_nil, z9] at * <;> first | assumption | omega) | (simp at * <;> omega))) (And.intro (zO e) (And.intro (zy e items (by first | assumption | omega | (exact za) | (simp only [z9] at * <;> omega) | (simp only [z5, z6, z7, z8, GS.some_l, List.length_set, List.length_append, List.length_cons, List.length_nil] at * <;> first | assumption | omega) | (simp only [z5, z6, z7, z8, GS.some_l, List.length_set, List.length_append, List.length_cons, List.length_nil, z9] at * <;> first | assumption | omega) | (simp at * <;> omega))) (And.intro h3 (And.intro h2 (And.intro (zQ e items (by first | assumption | omega | (exact za) | (simp only [z9] at * <;> omega) | (simp only [z5, z6, z7, z8, GS.some_l, List.length_set, List.length_append, List.length_cons, List.length_nil] at * <;> first | assumption | omega) | (simp only [z5, z6, z7, z8, GS.some_l, List.length_set, List.length_append, List.length_cons, List.length_nil, z9] at * <;> first | assumption | omega) | (simp at * <;> omega))) (And.intro h1 (And.intro (zH e) (And.intro (Eq.refl true) (And.intro y7 trivial))))))))))))))))))))))))) (by kernel_rfl)
                    | x1 i12p1 x12p1 v12p1_0 v12p1_1 =>
                      try dsimp only
                      exact zi ((zJ e items width) ++ ((l_OrdersGains_o4 e) ++ [.dec false, .dec false, .rw 74 (I ((((zh e).1).l.length : Nat) : Int)), .loop .ret (sd94 e items width i12p1 x12p1 v12p1_0 v12p1_1)])) (And.intro (po_lr (q := lr_l_OrdersGains_12p1 items width ((zh e).1) ((zG e items).1) ((zz e width).1)) (lp_l_OrdersGains_12p1 items width ((zh e).1) ((zG e items).1) ((zz e width).1) (((zh e).1).l) 0 0 0 (List.drop_zero) (Nat.zero_le _) (by first | assumption | omega | (exact za) | (simp only [z9] at * <;> omega) | (simp only [z5, z6, z7, z8, GS.some_l, List.length_set, List.length_append, List.length_cons, List.length_nil] at * <;> first | assumption | omega) | (simp only [z5, z6, z7, z8, GS.some_l, List.length_set, List.length_append, List.length_cons, List.length_nil, z9] at * <;> first | assumption | omega) | (simp at * <;> omega)) (by first | assumption | omega | (exact za) | (simp only [z9] at * <;> omega) | (simp only [z5, z6, z7, z8, GS.some_l, List.length_set, List.length_append, List.length_cons, List.length_nil] at * <;> first | assumption | omega) | (simp only [z5, z6, z7, z8, GS.some_l, List.length_set, List.length_append, List.length_cons, List.length_nil, z9] at * <;> first | assumption | omega) | (simp at * <;> omega))) h29) (And.intro (zg I ((zh e).1)) (And.intro h24 (And.intro h23 (And.intro (zg S_Item.D e.items) (And.intro (zg I ((zh e).1)) (And.intro h22 (And.intro h21 (And.intro h20 (And.intro h4 (And.intro (zS e width (by first | assumption | omega | (exact za) | (simp only [z9] at * <;> omega) | (simp only [z5, z6, z7, z8, GS.some_l, List.length_set, List.length_append, List.length_cons, List.length_nil] at * <;> first | assumption | omega) | (simp only [z5, z6, z7, z8, GS.some_l, List.length_set, List.length_append, List.length_cons, List.length_nil, z9] at * <;> first | assumption | omega) | (simp at * <;> omega))) (And.intro (zO e) (And.intro (zy e items (by first | assumption | omega | (exact za) | (simp only [z9] at * <;> omega) | (simp only [z5, z6, z7, z8, GS.some_l, List.length_set, List.length_append, List.length_cons, List.length_nil] at * <;> first | assumption | omega) | (simp only [z5, z6, z7, z8, GS.some_l, List.length_set, List.length_append, List.length_cons, List.length_nil, z9] at * <;> first | assumption | omega) | (simp at * <;> omega))) (And.intro h3 (And.intro h2 (And.intro (zQ e items (by first | assumption | omega | (exact za) | (simp only [z9] at * <;> omega) | (simp only [z5, z6, z7, z8, GS.some_l, List.length_set, List.length_append, List.length_cons, List.length_nil] at * <;> first | assumption | omega) | (simp only [z5, z6, z7, z8, GS.some_l, List.length_set, List.length_append, List.length_cons, List.length_nil, z9] at * <;> first | assumption | omega) | (simp at * <;> omega))) (And.intro h1 (And.intro (zH e) (And.intro (Eq.refl true) (And.intro y7 trivial)))))))))))))))))))) (by kernel_rfl)
    | false =>
      exact zi [.pure (B true), .dec true, .pure (B (r_Valid e)), .dec true, .pure (B (r_Right e items)), .dec false] (And.intro h2 (And.intro (zQ e items (by first | assumption | omega | (exact za) | (simp only [z9] at * <;> omega) | (simp only [z5, z6, z7, z8, GS.some_l, List.length_set, List.length_append, List.length_cons, List.length_nil] at * <;> first | assumption | omega) | (simp only [z5, z6, z7, z8, GS.some_l, List.length_set, List.length_append, List.length_cons, List.length_nil, z9] at * <;> first | assumption | omega) | (simp at * <;> omega))) (And.intro h1 (And.intro (zH e) (And.intro (Eq.refl true) (And.intro y7 trivial)))))) (by kernel_rfl)
  | false =>
    exact zi [.pure (B true), .dec true, .pure (B (r_Valid e)), .dec false] (And.intro h1 (And.intro (zH e) (And.intro (Eq.refl true) (And.intro y7 trivial)))) (by kernel_rfl)
end Go.VS
