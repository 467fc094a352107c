/- Nothing of a statement is proved in this text alone: it is part 3 of the proof's own tools, an evaluator of the code over deep values, its soundness, and what it makes of this seat's functions. Conditions: none beyond the statement's own. -/
import Derived.Test.YtnifoeahomkdlaaGreatVsZNb2
set_option linter.unusedSimpArgs false
set_option linter.unusedVariables false
namespace Go.VS
open Go Go.Proofs
set_option maxHeartbeats 0
set_option linter.unusedSimpArgs false
set_option linter.unusedVariables false
noncomputable def lp52_3 : Code := subC [1, 1, 0, 1, 0, 0] (bodyC Tryz.f52)

def sd41 (e : S_Estate) (items : GS Int) (i3 : Nat) (x3 : Int) (va3_0 : List Int) : St := ⟨25, [(10, I ((i3 + 1 : Nat) : Int)), (23, I ((i3 + 1 : Nat) : Int)), (5, .lsl 3 0 ((va3_0 ++ [(zj (GS.at e.items x3))]).length) 1 none), (22, .lsl 3 0 ((va3_0 ++ [(zj (GS.at e.items x3))]).length) 1 none), (21, .lsl 2 0 1 1 (some 1)), (20, I (zj (GS.at e.items x3))), (19, .agg [I ((GS.at e.items x3).now.lo), I ((GS.at e.items x3).now.hi), I ((GS.at e.items x3).cost), I ((GS.at e.items x3).error)]), (18, .ptr (.agg [I ((GS.at e.items x3).now.lo), I ((GS.at e.items x3).now.hi), I ((GS.at e.items x3).cost), I ((GS.at e.items x3).error)])), (17, I x3), (16, .sl e.items.nl (e.items.l.map S_Item.D) (zsl e.items.nl 4) none), (15, .lref 0 0 3 0), (14, .lsl 1 0 va3_0.length 1 none), (7, I x3), (13, I x3), (12, .ptr (I x3)), (11, B true), (2, .lref 0 0 3 0), (5, .lsl 1 0 va3_0.length 1 none), (8, .sl items.nl (items.l.map I) (zsl items.nl 1) none), (9, I ((items.l.length : Nat) : Int)), (10, I ((i3 : Nat) : Int))], [(0, ⟨[.agg [.sl e.items.nl (e.items.l.map S_Item.D) (zsl e.items.nl 4) none, I e.whole.lo, I e.whole.hi]], 3, false⟩), (2, ⟨[I (zj (GS.at e.items x3))], 1, false⟩), (3, ⟨(va3_0 ++ [(zj (GS.at e.items x3))]).map I, 1, false⟩)], 4, 0⟩

inductive LR_orders_gains_3 where
  | x0 (va3_0 : List Int)
  | x1
instance : Inhabited LR_orders_gains_3 := ⟨.x0 default⟩
def orders_gains_3a (e : S_Estate) : List Int → (List Int) → LR_orders_gains_3
  | [], va3_0 => .x0 va3_0
  | x3 :: rest3, va3_0 =>
    orders_gains_3a e rest3 (va3_0 ++ [(zj (GS.at e.items x3))])
def orders_gains_3 (e : S_Estate) : List Int → LR_orders_gains_3
  | [] => .x1
  | x3 :: rest3 =>
    orders_gains_3a e rest3 [(zj (GS.at e.items x3))]
def lr_orders_gains_3 (e : S_Estate) (items : GS Int) : LR_orders_gains_3 → Exit × St
  | .x0 va3_0 => ((.exit 0), ⟨25, [(11, B false), (2, .lref 0 0 3 0), (5, .lsl 1 0 va3_0.length 1 none), (8, .sl items.nl (items.l.map I) (zsl items.nl 1) none), (9, I ((items.l.length : Nat) : Int)), (10, I ((items.l.length : Nat) : Int))], [(0, ⟨[.agg [.sl e.items.nl (e.items.l.map S_Item.D) (zsl e.items.nl 4) none, I e.whole.lo, I e.whole.hi]], 3, false⟩), (1, ⟨va3_0.map I, 1, false⟩)], 2, 0⟩)
  | .x1 => ((.exit 0), ⟨25, [(11, B false), (2, .lref 0 0 3 0), (5, .sl true [] 0 none), (8, .sl items.nl (items.l.map I) (zsl items.nl 1) none), (9, I ((items.l.length : Nat) : Int)), (10, I ((items.l.length : Nat) : Int))], [(0, ⟨[.agg [.sl e.items.nl (e.items.l.map S_Item.D) (zsl e.items.nl 4) none, I e.whole.lo, I e.whole.hi]], 3, false⟩)], 1, 0⟩)
def iv_orders_gains_3 (e : S_Estate) (items : GS Int) : LR_orders_gains_3 → Prop
  | .x0 va3_0 => (va3_0.length ≤ items.l.length)
  | .x1 => True
theorem lp_orders_gains_3a (e : S_Estate) (items : GS Int) : ∀ (rest3 : List Int) (i3 : Nat) (va3_0 : List Int) (hd3 : items.l.drop i3 = rest3) (hi3 : i3 ≤ items.l.length) (hall : ∀ i ∈ items.l, 0 ≤ i ∧ i < ((e.items.l.length : Nat) : Int)) (hg3_va3_0 : va3_0.length ≤ i3) (hL3 : items.l.length ≤ 1099511627776), (lim cfg).loop 52 lp52_3 ⟨25, [(2, .lref 0 0 3 0), (5, .lsl 1 0 va3_0.length 1 none), (8, .sl items.nl (items.l.map I) (zsl items.nl 1) none), (9, I ((items.l.length : Nat) : Int)), (10, I ((i3 : Nat) : Int))], [(0, ⟨[.agg [.sl e.items.nl (e.items.l.map S_Item.D) (zsl e.items.nl 4) none, I e.whole.lo, I e.whole.hi]], 3, false⟩), (1, ⟨va3_0.map I, 1, false⟩)], 2, 0⟩ = some (lr_orders_gains_3 e items (orders_gains_3a e rest3 va3_0)) := by
  intro rest3
  induction rest3 with
  | nil =>
    intro i3 va3_0 hd3 hi3 hall hg3_va3_0 hL3
    unfold orders_gains_3a
    obtain rfl : i3 = items.l.length := nil_eq hd3 hi3
    exact zO [.dec false] (And.intro (lt_no hd3) trivial) (by kernel_rfl)
  | cons x3 rest3 ih =>
    intro i3 va3_0 hd3 hi3 hall hg3_va3_0 hL3
    have hlt3 := zr hd3
    have hbx := hall x3 (mem_drop hd3)
    unfold orders_gains_3a
    exact po_turn' (ks := [2, 5, 8, 9, 10]) (st' := (sd41 e items i3 x3 va3_0)) [.dec true, .el (I x3), .el (.agg [I ((GS.at e.items x3).now.lo), I ((GS.at e.items x3).now.hi), I ((GS.at e.items x3).cost), I ((GS.at e.items x3).error)]), .pure (I (zj (GS.at e.items x3))), .op (some 22) ⟨.lsl 3 0 ((va3_0 ++ [(zj (GS.at e.items x3))]).length) 1 none, [(1, none), (3, some ⟨(va3_0 ++ [(zj (GS.at e.items x3))]).map I, 1, false⟩)], [1, 2], 4⟩, .rw 23 (I ((i3 + 1 : Nat) : Int))] (And.intro (yb (i := i3) (by have := zr hd3; omega)) (And.intro (app_row (f := I) (te := ty3) (gO := zD [(0, ⟨[.agg [.sl e.items.nl (e.items.l.map S_Item.D) (zsl e.items.nl 4) none, I e.whole.lo, I e.whole.hi]], 3, false⟩), (1, ⟨va3_0.map I, 1, false⟩), (2, ⟨[I (zj (GS.at e.items x3))], 1, false⟩)]) (nxt := 3) (o := 1) (o2 := 2) (fz := false) zU va3_0 (zj (GS.at e.items x3)) (by kernel_rfl) (by kernel_rfl) rfl (by kernel_rfl) (by decide) ⟨by simp only [ty3, big] <;> (first | assumption | omega | (simp only [z8] at * <;> omega) | (simp only [z7, z6, GS.some_l, List.length_set, List.length_append, List.length_cons, List.length_nil] at * <;> first | with_reducible assumption | omega) | (simp only [z7, z6, GS.some_l, List.length_set, List.length_append, List.length_cons, List.length_nil, z8] at * <;> first | with_reducible assumption | omega) | (simp at * <;> omega)), by simp only [big] <;> (first | assumption | omega | (simp only [z8] at * <;> omega) | (simp only [z7, z6, GS.some_l, List.length_set, List.length_append, List.length_cons, List.length_nil] at * <;> first | with_reducible assumption | omega) | (simp only [z7, z6, GS.some_l, List.length_set, List.length_append, List.length_cons, List.length_nil, z8] at * <;> first | with_reducible assumption | omega) | (simp at * <;> omega))⟩) (And.intro (T_orders_gain (GS.at e.items x3)) (And.intro (el_in (s := e.items) (f := S_Item.D) (k := 4) (i := x3) (by first | assumption | omega) (by first | assumption | omega)) (And.intro (el_at (s := items) (f := I) (k := 1) hd3) (And.intro (lt_at hd3) trivial)))))) (by kernel_rfl) (by (simp only [sd41, go_sem, Nat.reduceAdd, Nat.reduceEqDiff, Nat.reduceLT, Nat.reduceLeDiff, bI2, zU.idsL, zU.renL, zU.snapAll, zg.idsL, zg.renL, zg.snapAll]) <;> rfl) (ih (i3 + 1) (va3_0 ++ [(zj (GS.at e.items x3))]) (zJ hd3) (zr hd3) (by first | assumption | omega) (by first | assumption | omega | (simp only [z8] at * <;> omega) | (simp only [z7, z6, GS.some_l, List.length_set, List.length_append, List.length_cons, List.length_nil] at * <;> first | with_reducible assumption | omega) | (simp only [z7, z6, GS.some_l, List.length_set, List.length_append, List.length_cons, List.length_nil, z8] at * <;> first | with_reducible assumption | omega) | (simp at * <;> omega)) (by first | assumption | omega)) (by kernel_rfl)
theorem ivt_orders_gains_3a (e : S_Estate) (items : GS Int) : ∀ (rest3 : List Int) (i3 : Nat) (va3_0 : List Int) (hd3 : items.l.drop i3 = rest3) (hi3 : i3 ≤ items.l.length) (hall : ∀ i ∈ items.l, 0 ≤ i ∧ i < ((e.items.l.length : Nat) : Int)) (hg3_va3_0 : va3_0.length ≤ i3) (hL3 : items.l.length ≤ 1099511627776), iv_orders_gains_3 e items (orders_gains_3a e rest3 va3_0) := by
  intro rest3
  induction rest3 with
  | nil =>
    intro i3 va3_0 hd3 hi3 hall hg3_va3_0 hL3
    unfold orders_gains_3a
    obtain rfl : i3 = items.l.length := nil_eq hd3 hi3
    exact hg3_va3_0
  | cons x3 rest3 ih =>
    intro i3 va3_0 hd3 hi3 hall hg3_va3_0 hL3
    have hlt3 := zr hd3
    have hbx := hall x3 (mem_drop hd3)
    unfold orders_gains_3a
    exact ih (i3 + 1) (va3_0 ++ [(zj (GS.at e.items x3))]) (zJ hd3) (zr hd3) (by first | assumption | omega) (by first | assumption | omega | (simp only [z8] at * <;> omega) | (simp only [z7, z6, GS.some_l, List.length_set, List.length_append, List.length_cons, List.length_nil] at * <;> first | with_reducible assumption | omega) | (simp only [z7, z6, GS.some_l, List.length_set, List.length_append, List.length_cons, List.length_nil, z8] at * <;> first | with_reducible assumption | omega) | (simp at * <;> omega)) (by first | assumption | omega)
theorem lp_orders_gains_3 (e : S_Estate) (items : GS Int) : ∀ (rest3 : List Int) (i3 : Nat) (hd3 : items.l.drop i3 = rest3) (hi3 : i3 ≤ items.l.length) (hall : ∀ i ∈ items.l, 0 ≤ i ∧ i < ((e.items.l.length : Nat) : Int)) (hL3 : items.l.length ≤ 1099511627776), (lim cfg).loop 52 lp52_3 ⟨25, [(2, .lref 0 0 3 0), (5, .sl true [] 0 none), (8, .sl items.nl (items.l.map I) (zsl items.nl 1) none), (9, I ((items.l.length : Nat) : Int)), (10, I ((i3 : Nat) : Int))], [(0, ⟨[.agg [.sl e.items.nl (e.items.l.map S_Item.D) (zsl e.items.nl 4) none, I e.whole.lo, I e.whole.hi]], 3, false⟩)], 1, 0⟩ = some (lr_orders_gains_3 e items (orders_gains_3 e rest3)) := by
  intro rest3
  induction rest3 with
  | nil =>
    intro i3 hd3 hi3 hall hL3
    unfold orders_gains_3
    obtain rfl : i3 = items.l.length := nil_eq hd3 hi3
    exact zO [.dec false] (And.intro (lt_no hd3) trivial) (by kernel_rfl)
  | cons x3 rest3 ih =>
    intro i3 hd3 hi3 hall hL3
    have hlt3 := zr hd3
    have hbx := hall x3 (mem_drop hd3)
    unfold orders_gains_3
    dsimp only
    exact po_turn [.dec true, .el (I x3), .el (.agg [I ((GS.at e.items x3).now.lo), I ((GS.at e.items x3).now.hi), I ((GS.at e.items x3).cost), I ((GS.at e.items x3).error)]), .pure (I (zj (GS.at e.items x3))), .rw 23 (I ((i3 + 1 : Nat) : Int))] (And.intro (yb (i := i3) (by have := zr hd3; omega)) (And.intro (T_orders_gain (GS.at e.items x3)) (And.intro (el_in (s := e.items) (f := S_Item.D) (k := 4) (i := x3) (by first | assumption | omega) (by first | assumption | omega)) (And.intro (el_at (s := items) (f := I) (k := 1) hd3) (And.intro (lt_at hd3) trivial))))) (lp_orders_gains_3a e items _ (i3 + 1) [(zj (GS.at e.items x3))] (zJ hd3) (zr hd3) (by first | assumption | omega) (by first | assumption | omega | (simp only [z8] at * <;> omega) | (simp only [z7, z6, GS.some_l, List.length_set, List.length_append, List.length_cons, List.length_nil] at * <;> first | with_reducible assumption | omega) | (simp only [z7, z6, GS.some_l, List.length_set, List.length_append, List.length_cons, List.length_nil, z8] at * <;> first | with_reducible assumption | omega) | (simp at * <;> omega)) (by first | assumption | omega)) (by kernel_rfl)
theorem ivt_orders_gains_3 (e : S_Estate) (items : GS Int) : ∀ (rest3 : List Int) (i3 : Nat) (hd3 : items.l.drop i3 = rest3) (hi3 : i3 ≤ items.l.length) (hall : ∀ i ∈ items.l, 0 ≤ i ∧ i < ((e.items.l.length : Nat) : Int)) (hL3 : items.l.length ≤ 1099511627776), iv_orders_gains_3 e items (orders_gains_3 e rest3) := by
  intro rest3
  induction rest3 with
  | nil =>
    intro i3 hd3 hi3 hall hL3
    unfold orders_gains_3
    obtain rfl : i3 = items.l.length := nil_eq hd3 hi3
    exact trivial
  | cons x3 rest3 ih =>
    intro i3 hd3 hi3 hall hL3
    have hlt3 := zr hd3
    have hbx := hall x3 (mem_drop hd3)
    unfold orders_gains_3
    dsimp only
    exact ivt_orders_gains_3a e items _ (i3 + 1) [(zj (GS.at e.items x3))] (zJ hd3) (zr hd3) (by first | assumption | omega) (by first | assumption | omega | (simp only [z8] at * <;> omega) | (simp only [z7, z6, GS.some_l, List.length_set, List.length_append, List.length_cons, List.length_nil] at * <;> first | with_reducible assumption | omega) | (simp only [z7, z6, GS.some_l, List.length_set, List.length_append, List.length_cons, List.length_nil, z8] at * <;> first | with_reducible assumption | omega) | (simp at * <;> omega)) (by first | assumption | omega)

def zf (e : S_Estate) (items : GS Int) : (GS Int) :=
  match orders_gains_3 e items.l with
  | .x0 va3_0 =>
    GS.some va3_0
  | .x1 =>
    GS.nil

def sd42 (e : S_Estate) (items : GS Int) (va3_0 : List Int) : St := ⟨25, [(11, B false), (2, .lref 0 0 3 0), (5, .lsl 1 0 va3_0.length 1 none), (8, .sl items.nl (items.l.map I) (zsl items.nl 1) none), (9, I ((items.l.length : Nat) : Int)), (10, I ((items.l.length : Nat) : Int))], [(0, ⟨[.agg [.sl e.items.nl (e.items.l.map S_Item.D) (zsl e.items.nl 4) none, I e.whole.lo, I e.whole.hi]], 3, false⟩), (1, ⟨va3_0.map I, 1, false⟩)], 2, 0⟩

def sd43 (e : S_Estate) (items : GS Int) : St := ⟨25, [(11, B false), (2, .lref 0 0 3 0), (5, .sl true [] 0 none), (8, .sl items.nl (items.l.map I) (zsl items.nl 1) none), (9, I ((items.l.length : Nat) : Int)), (10, I ((items.l.length : Nat) : Int))], [(0, ⟨[.agg [.sl e.items.nl (e.items.l.map S_Item.D) (zsl e.items.nl 4) none, I e.whole.lo, I e.whole.hi]], 3, false⟩)], 1, 0⟩

theorem T_orders_gains (e : S_Estate) (items : GS Int) (hall : ∀ i ∈ items.l, 0 ≤ i ∧ i < ((e.items.l.length : Nat) : Int)) (hL_items : items.l.length ≤ 1099511627776) : (lim cfg).pure 52 [S_Estate.D e, GS.D I 1 items] = some (GS.D I 1 (zf e items)) := by
  unfold zf
  cases h1 : orders_gains_3 e items.l with
  | x0 va3_0 =>
    try dsimp only
    have hv_h1 := ivt_orders_gains_3 e items items.l 0 (List.drop_zero) (Nat.zero_le _) (by first | assumption | omega) (by first | assumption | omega)
    rw [h1] at hv_h1
    have hv_h1_0 := hv_h1
    try dsimp only [iv_orders_gains_3] at hv_h1_0
    exact po_pureS [.rw 9 (I ((items.l.length : Nat) : Int)), .loop (.exit 0) (sd42 e items va3_0)] [(1, .sl false (va3_0.map I) 1 none, [1])] (And.intro (snap_row (gO := zD [(0, ⟨[.agg [.sl e.items.nl (e.items.l.map S_Item.D) (zsl e.items.nl 4) none, I e.whole.lo, I e.whole.hi]], 3, false⟩), (1, ⟨va3_0.map I, 1, false⟩)]) (o := 1) (len := va3_0.length) (cap := none) (fz := false) zU va3_0 (by kernel_rfl) (by first | assumption | omega)) (And.intro (po_lr (q := lr_orders_gains_3 e items) (lp_orders_gains_3 e items items.l 0 (List.drop_zero) (Nat.zero_le _) (by first | assumption | omega) (by first | assumption | omega)) h1) (And.intro (zh I items) trivial))) (by kernel_rfl)
  | x1 =>
    try dsimp only
    exact za [.rw 9 (I ((items.l.length : Nat) : Int)), .loop (.exit 0) (sd43 e items)] (And.intro (po_lr (q := lr_orders_gains_3 e items) (lp_orders_gains_3 e items items.l 0 (List.drop_zero) (Nat.zero_le _) (by first | assumption | omega) (by first | assumption | omega)) h1) (And.intro (zh I items) trivial)) (by kernel_rfl)

theorem gains_l (e : S_Estate) (items : GS Int) : (zf e items).l = items.l.map (fun i => zj (e.items.at i)) ∧ (zf e items).nl = items.l.isEmpty := by
  have key : ∀ (l v : List Int), orders_gains_3a e l v = .x0 (v ++ l.map (fun i => zj (e.items.at i))) := by
    intro l
    induction l with
    | nil => intro v; simp [orders_gains_3a]
    | cons x l ih => intro v; rw [orders_gains_3a, ih]; simp
  unfold zf
  cases items.l with
  | nil => exact ⟨rfl, rfl⟩
  | cons x l => rw [orders_gains_3, key]; exact ⟨rfl, rfl⟩
theorem z6 (e : S_Estate) (items : GS Int) : (zf e items).l.length = items.l.length := by rw [(gains_l e items).1, List.length_map]


noncomputable def lp65_3 : Code := subC [1, 1, 0, 1, 0, 0] (bodyC Tryz.f65)

inductive LR_orders_cost_3 where
  | x0 (v3_0 : Int)
instance : Inhabited LR_orders_cost_3 := ⟨.x0 default⟩
def orders_cost_3 (e : S_Estate) : List Int → Int → LR_orders_cost_3
  | [], v3_0 => .x0 v3_0
  | x3 :: rest3, v3_0 =>
    orders_cost_3 e rest3 (w64 (v3_0 + ((GS.at e.items x3).cost)))
def lr_orders_cost_3 (e : S_Estate) (items : GS Int) : LR_orders_cost_3 → Exit × St
  | .x0 v3_0 => ((.exit 0), ⟨24, [(11, B false), (2, .lref 0 0 3 0), (5, I v3_0), (8, .sl items.nl (items.l.map I) (zsl items.nl 1) none), (9, I ((items.l.length : Nat) : Int)), (10, I ((items.l.length : Nat) : Int))], [(0, ⟨[.agg [.sl e.items.nl (e.items.l.map S_Item.D) (zsl e.items.nl 4) none, I e.whole.lo, I e.whole.hi]], 3, false⟩)], 1, 0⟩)
theorem lp_orders_cost_3 (e : S_Estate) (items : GS Int) : ∀ (rest3 : List Int) (i3 : Nat) (v3_0 : Int) (hd3 : items.l.drop i3 = rest3) (hi3 : i3 ≤ items.l.length) (hall : ∀ i ∈ items.l, 0 ≤ i ∧ i < ((e.items.l.length : Nat) : Int)) (hL3 : items.l.length ≤ 9223372036854775807), (lim cfg).loop 65 lp65_3 ⟨24, [(2, .lref 0 0 3 0), (5, I v3_0), (8, .sl items.nl (items.l.map I) (zsl items.nl 1) none), (9, I ((items.l.length : Nat) : Int)), (10, I ((i3 : Nat) : Int))], [(0, ⟨[.agg [.sl e.items.nl (e.items.l.map S_Item.D) (zsl e.items.nl 4) none, I e.whole.lo, I e.whole.hi]], 3, false⟩)], 1, 0⟩ = some (lr_orders_cost_3 e items (orders_cost_3 e rest3 v3_0)) := by
  intro rest3
  induction rest3 with
  | nil =>
    intro i3 v3_0 hd3 hi3 hall hL3
    unfold orders_cost_3
    obtain rfl : i3 = items.l.length := nil_eq hd3 hi3
    exact zO [.dec false] (And.intro (lt_no hd3) trivial) (by kernel_rfl)
  | cons x3 rest3 ih =>
    intro i3 v3_0 hd3 hi3 hall hL3
    have hlt3 := zr hd3
    have hbx := hall x3 (mem_drop hd3)
    unfold orders_cost_3
    exact po_turn [.dec true, .el (I x3), .el (.agg [I ((GS.at e.items x3).now.lo), I ((GS.at e.items x3).now.hi), I ((GS.at e.items x3).cost), I ((GS.at e.items x3).error)]), .rw 22 (I ((i3 + 1 : Nat) : Int))] (And.intro (yb (i := i3) (by have := zr hd3; omega)) (And.intro (el_in (s := e.items) (f := S_Item.D) (k := 4) (i := x3) (by first | assumption | omega) (by first | assumption | omega)) (And.intro (el_at (s := items) (f := I) (k := 1) hd3) (And.intro (lt_at hd3) trivial)))) (ih (i3 + 1) (w64 (v3_0 + ((GS.at e.items x3).cost))) (zJ hd3) (zr hd3) (by first | assumption | omega) (by first | assumption | omega)) (by kernel_rfl)

def zP (e : S_Estate) (items : GS Int) : Int :=
  match orders_cost_3 e items.l 0 with
  | .x0 v3_0 =>
    v3_0

def sd44 (e : S_Estate) (items : GS Int) (v3_0 : Int) : St := ⟨24, [(11, B false), (2, .lref 0 0 3 0), (5, I v3_0), (8, .sl items.nl (items.l.map I) (zsl items.nl 1) none), (9, I ((items.l.length : Nat) : Int)), (10, I ((items.l.length : Nat) : Int))], [(0, ⟨[.agg [.sl e.items.nl (e.items.l.map S_Item.D) (zsl e.items.nl 4) none, I e.whole.lo, I e.whole.hi]], 3, false⟩)], 1, 0⟩

theorem T_orders_cost (e : S_Estate) (items : GS Int) (hall : ∀ i ∈ items.l, 0 ≤ i ∧ i < ((e.items.l.length : Nat) : Int)) (hL_items : items.l.length ≤ 9223372036854775807) : (lim cfg).pure 65 [S_Estate.D e, GS.D I 1 items] = some (I (zP e items)) := by
  unfold zP
  cases h1 : orders_cost_3 e items.l 0 with
  | x0 v3_0 =>
    try dsimp only
    exact za [.rw 9 (I ((items.l.length : Nat) : Int)), .loop (.exit 0) (sd44 e items v3_0)] (And.intro (po_lr (q := lr_orders_cost_3 e items) (lp_orders_cost_3 e items items.l 0 0 (List.drop_zero) (Nat.zero_le _) (by first | assumption | omega) (by first | assumption | omega)) h1) (And.intro (zh I items) trivial)) (by kernel_rfl)

noncomputable def lp77_3 : Code := subC [1, 1, 0, 1, 0, 0] (bodyC Tryz.f77)

def sd45 (e : S_Estate) (items : GS Int) (i3 : Nat) (x3 : Int) (va3_0 : Int) (va3_1 : List Int) : St := ⟨43, [(14, I ((i3 + 1 : Nat) : Int)), (41, I ((i3 + 1 : Nat) : Int)), (7, .lsl 4 0 ((va3_1 ++ [w64 ((w64 (((GS.at e.items x3).now.lo) + ((GS.at e.items x3).error))) + (imin va3_0 (zj (GS.at e.items x3))))]).length) 1 none), (40, .lsl 4 0 ((va3_1 ++ [w64 ((w64 (((GS.at e.items x3).now.lo) + ((GS.at e.items x3).error))) + (imin va3_0 (zj (GS.at e.items x3))))]).length) 1 none), (39, .lsl 3 0 1 1 (some 1)), (38, I (w64 ((w64 (((GS.at e.items x3).now.lo) + ((GS.at e.items x3).error))) + (imin va3_0 (zj (GS.at e.items x3)))))), (37, I (imin va3_0 (zj (GS.at e.items x3)))), (36, I (w64 (((GS.at e.items x3).now.lo) + ((GS.at e.items x3).error)))), (35, I ((GS.at e.items x3).error)), (34, .lref 2 0 4 3), (33, I ((GS.at e.items x3).now.lo)), (32, .lref 2 0 4 0), (31, .lref 2 0 4 0), (30, .lsl 1 0 va3_1.length 1 none), (2, I (w64 (va3_0 - (imin va3_0 (zj (GS.at e.items x3)))))), (29, I (w64 (va3_0 - (imin va3_0 (zj (GS.at e.items x3)))))), (28, I (imin va3_0 (zj (GS.at e.items x3)))), (27, I va3_0), (11, I (imin va3_0 (zj (GS.at e.items x3)))), (26, I (imin va3_0 (zj (GS.at e.items x3)))), (25, I (zj (GS.at e.items x3))), (24, .agg [I ((GS.at e.items x3).now.lo), I ((GS.at e.items x3).now.hi), I ((GS.at e.items x3).cost), I ((GS.at e.items x3).error)]), (23, I va3_0), (10, .lref 2 0 4 0), (22, .agg [I ((GS.at e.items x3).now.lo), I ((GS.at e.items x3).now.hi), I ((GS.at e.items x3).cost), I ((GS.at e.items x3).error)]), (21, .ptr (.agg [I ((GS.at e.items x3).now.lo), I ((GS.at e.items x3).now.hi), I ((GS.at e.items x3).cost), I ((GS.at e.items x3).error)])), (20, I x3), (19, .sl e.items.nl (e.items.l.map S_Item.D) (zsl e.items.nl 4) none), (18, .lref 0 0 3 0), (9, I x3), (17, I x3), (16, .ptr (I x3)), (15, B true), (2, I va3_0), (3, .lref 0 0 3 0), (7, .lsl 1 0 va3_1.length 1 none), (12, .sl items.nl (items.l.map I) (zsl items.nl 1) none), (13, I ((items.l.length : Nat) : Int)), (14, I ((i3 : Nat) : Int))], [(0, ⟨[.agg [.sl e.items.nl (e.items.l.map S_Item.D) (zsl e.items.nl 4) none, I e.whole.lo, I e.whole.hi]], 3, false⟩), (2, ⟨[.agg [I ((GS.at e.items x3).now.lo), I ((GS.at e.items x3).now.hi), I ((GS.at e.items x3).cost), I ((GS.at e.items x3).error)]], 4, false⟩), (3, ⟨[I (w64 ((w64 (((GS.at e.items x3).now.lo) + ((GS.at e.items x3).error))) + (imin va3_0 (zj (GS.at e.items x3)))))], 1, false⟩), (4, ⟨(va3_1 ++ [w64 ((w64 (((GS.at e.items x3).now.lo) + ((GS.at e.items x3).error))) + (imin va3_0 (zj (GS.at e.items x3))))]).map I, 1, false⟩)], 5, 0⟩

inductive LR_orders_shown_3 where
  | x0 (va3_0 : Int) (va3_1 : List Int)
  | x1
instance : Inhabited LR_orders_shown_3 := ⟨.x0 default default⟩
def orders_shown_3a (e : S_Estate) (s : Int) : List Int → Int → (List Int) → LR_orders_shown_3
  | [], va3_0, va3_1 => .x0 va3_0 va3_1
  | x3 :: rest3, va3_0, va3_1 =>
    orders_shown_3a e s rest3 (w64 (va3_0 - (imin va3_0 (zj (GS.at e.items x3))))) (va3_1 ++ [w64 ((w64 (((GS.at e.items x3).now.lo) + ((GS.at e.items x3).error))) + (imin va3_0 (zj (GS.at e.items x3))))])
def orders_shown_3 (e : S_Estate) (s : Int) : List Int → LR_orders_shown_3
  | [] => .x1
  | x3 :: rest3 =>
    orders_shown_3a e s rest3 (w64 (s - (imin s (zj (GS.at e.items x3))))) [w64 ((w64 (((GS.at e.items x3).now.lo) + ((GS.at e.items x3).error))) + (imin s (zj (GS.at e.items x3))))]
def lr_orders_shown_3 (e : S_Estate) (items : GS Int) (s : Int) : LR_orders_shown_3 → Exit × St
  | .x0 va3_0 va3_1 => ((.exit 0), ⟨43, [(15, B false), (2, I va3_0), (3, .lref 0 0 3 0), (7, .lsl 1 0 va3_1.length 1 none), (12, .sl items.nl (items.l.map I) (zsl items.nl 1) none), (13, I ((items.l.length : Nat) : Int)), (14, I ((items.l.length : Nat) : Int))], [(0, ⟨[.agg [.sl e.items.nl (e.items.l.map S_Item.D) (zsl e.items.nl 4) none, I e.whole.lo, I e.whole.hi]], 3, false⟩), (1, ⟨va3_1.map I, 1, false⟩)], 2, 0⟩)
  | .x1 => ((.exit 0), ⟨43, [(15, B false), (2, I s), (3, .lref 0 0 3 0), (7, .sl true [] 0 none), (12, .sl items.nl (items.l.map I) (zsl items.nl 1) none), (13, I ((items.l.length : Nat) : Int)), (14, I ((items.l.length : Nat) : Int))], [(0, ⟨[.agg [.sl e.items.nl (e.items.l.map S_Item.D) (zsl e.items.nl 4) none, I e.whole.lo, I e.whole.hi]], 3, false⟩)], 1, 0⟩)
def iv_orders_shown_3 (e : S_Estate) (items : GS Int) (s : Int) : LR_orders_shown_3 → Prop
  | .x0 va3_0 va3_1 => (va3_1.length ≤ items.l.length)
  | .x1 => True
theorem lp_orders_shown_3a (e : S_Estate) (items : GS Int) (s : Int) : ∀ (rest3 : List Int) (i3 : Nat) (va3_0 : Int) (va3_1 : List Int) (hd3 : items.l.drop i3 = rest3) (hi3 : i3 ≤ items.l.length) (hall : ∀ i ∈ items.l, 0 ≤ i ∧ i < ((e.items.l.length : Nat) : Int)) (hg3_va3_1 : va3_1.length ≤ i3) (hL3 : items.l.length ≤ 1099511627776), (lim cfg).loop 77 lp77_3 ⟨43, [(2, I va3_0), (3, .lref 0 0 3 0), (7, .lsl 1 0 va3_1.length 1 none), (12, .sl items.nl (items.l.map I) (zsl items.nl 1) none), (13, I ((items.l.length : Nat) : Int)), (14, I ((i3 : Nat) : Int))], [(0, ⟨[.agg [.sl e.items.nl (e.items.l.map S_Item.D) (zsl e.items.nl 4) none, I e.whole.lo, I e.whole.hi]], 3, false⟩), (1, ⟨va3_1.map I, 1, false⟩)], 2, 0⟩ = some (lr_orders_shown_3 e items s (orders_shown_3a e s rest3 va3_0 va3_1)) := by
  intro rest3
  induction rest3 with
  | nil =>
    intro i3 va3_0 va3_1 hd3 hi3 hall hg3_va3_1 hL3
    unfold orders_shown_3a
    obtain rfl : i3 = items.l.length := nil_eq hd3 hi3
    exact zO [.dec false] (And.intro (lt_no hd3) trivial) (by kernel_rfl)
  | cons x3 rest3 ih =>
    intro i3 va3_0 va3_1 hd3 hi3 hall hg3_va3_1 hL3
    have hlt3 := zr hd3
    have hbx := hall x3 (mem_drop hd3)
    unfold orders_shown_3a
    exact po_turn' (ks := [2, 3, 7, 12, 13, 14]) (st' := (sd45 e items i3 x3 va3_0 va3_1)) [.dec true, .el (I x3), .el (.agg [I ((GS.at e.items x3).now.lo), I ((GS.at e.items x3).now.hi), I ((GS.at e.items x3).cost), I ((GS.at e.items x3).error)]), .pure (I (zj (GS.at e.items x3))), .op (some 40) ⟨.lsl 4 0 ((va3_1 ++ [w64 ((w64 (((GS.at e.items x3).now.lo) + ((GS.at e.items x3).error))) + (imin va3_0 (zj (GS.at e.items x3))))]).length) 1 none, [(1, none), (4, some ⟨(va3_1 ++ [w64 ((w64 (((GS.at e.items x3).now.lo) + ((GS.at e.items x3).error))) + (imin va3_0 (zj (GS.at e.items x3))))]).map I, 1, false⟩)], [1, 3], 5⟩, .rw 41 (I ((i3 + 1 : Nat) : Int))] (And.intro (yb (i := i3) (by have := zr hd3; omega)) (And.intro (app_row (f := I) (te := ty3) (gO := zD [(0, ⟨[.agg [.sl e.items.nl (e.items.l.map S_Item.D) (zsl e.items.nl 4) none, I e.whole.lo, I e.whole.hi]], 3, false⟩), (1, ⟨va3_1.map I, 1, false⟩), (2, ⟨[.agg [I ((GS.at e.items x3).now.lo), I ((GS.at e.items x3).now.hi), I ((GS.at e.items x3).cost), I ((GS.at e.items x3).error)]], 4, false⟩), (3, ⟨[I (w64 ((w64 (((GS.at e.items x3).now.lo) + ((GS.at e.items x3).error))) + (imin va3_0 (zj (GS.at e.items x3)))))], 1, false⟩)]) (nxt := 4) (o := 1) (o2 := 3) (fz := false) zU va3_1 (w64 ((w64 (((GS.at e.items x3).now.lo) + ((GS.at e.items x3).error))) + (imin va3_0 (zj (GS.at e.items x3))))) (by kernel_rfl) (by kernel_rfl) rfl (by kernel_rfl) (by decide) ⟨by simp only [ty3, big] <;> (first | assumption | omega | (simp only [z8] at * <;> omega) | (simp only [z7, z6, GS.some_l, List.length_set, List.length_append, List.length_cons, List.length_nil] at * <;> first | with_reducible assumption | omega) | (simp only [z7, z6, GS.some_l, List.length_set, List.length_append, List.length_cons, List.length_nil, z8] at * <;> first | with_reducible assumption | omega) | (simp at * <;> omega)), by simp only [big] <;> (first | assumption | omega | (simp only [z8] at * <;> omega) | (simp only [z7, z6, GS.some_l, List.length_set, List.length_append, List.length_cons, List.length_nil] at * <;> first | with_reducible assumption | omega) | (simp only [z7, z6, GS.some_l, List.length_set, List.length_append, List.length_cons, List.length_nil, z8] at * <;> first | with_reducible assumption | omega) | (simp at * <;> omega))⟩) (And.intro (T_orders_gain (GS.at e.items x3)) (And.intro (el_in (s := e.items) (f := S_Item.D) (k := 4) (i := x3) (by first | assumption | omega) (by first | assumption | omega)) (And.intro (el_at (s := items) (f := I) (k := 1) hd3) (And.intro (lt_at hd3) trivial)))))) (by kernel_rfl) (by (simp only [sd45, go_sem, Nat.reduceAdd, Nat.reduceEqDiff, Nat.reduceLT, Nat.reduceLeDiff, bI2, zU.idsL, zU.renL, zU.snapAll, zg.idsL, zg.renL, zg.snapAll]) <;> rfl) (ih (i3 + 1) (w64 (va3_0 - (imin va3_0 (zj (GS.at e.items x3))))) (va3_1 ++ [w64 ((w64 (((GS.at e.items x3).now.lo) + ((GS.at e.items x3).error))) + (imin va3_0 (zj (GS.at e.items x3))))]) (zJ hd3) (zr hd3) (by first | assumption | omega) (by first | assumption | omega | (simp only [z8] at * <;> omega) | (simp only [z7, z6, GS.some_l, List.length_set, List.length_append, List.length_cons, List.length_nil] at * <;> first | with_reducible assumption | omega) | (simp only [z7, z6, GS.some_l, List.length_set, List.length_append, List.length_cons, List.length_nil, z8] at * <;> first | with_reducible assumption | omega) | (simp at * <;> omega)) (by first | assumption | omega)) (by kernel_rfl)
theorem ivt_orders_shown_3a (e : S_Estate) (items : GS Int) (s : Int) : ∀ (rest3 : List Int) (i3 : Nat) (va3_0 : Int) (va3_1 : List Int) (hd3 : items.l.drop i3 = rest3) (hi3 : i3 ≤ items.l.length) (hall : ∀ i ∈ items.l, 0 ≤ i ∧ i < ((e.items.l.length : Nat) : Int)) (hg3_va3_1 : va3_1.length ≤ i3) (hL3 : items.l.length ≤ 1099511627776), iv_orders_shown_3 e items s (orders_shown_3a e s rest3 va3_0 va3_1) := by
  intro rest3
  induction rest3 with
  | nil =>
    intro i3 va3_0 va3_1 hd3 hi3 hall hg3_va3_1 hL3
    unfold orders_shown_3a
    obtain rfl : i3 = items.l.length := nil_eq hd3 hi3
    exact hg3_va3_1
  | cons x3 rest3 ih =>
    intro i3 va3_0 va3_1 hd3 hi3 hall hg3_va3_1 hL3
    have hlt3 := zr hd3
    have hbx := hall x3 (mem_drop hd3)
    unfold orders_shown_3a
    exact ih (i3 + 1) (w64 (va3_0 - (imin va3_0 (zj (GS.at e.items x3))))) (va3_1 ++ [w64 ((w64 (((GS.at e.items x3).now.lo) + ((GS.at e.items x3).error))) + (imin va3_0 (zj (GS.at e.items x3))))]) (zJ hd3) (zr hd3) (by first | assumption | omega) (by first | assumption | omega | (simp only [z8] at * <;> omega) | (simp only [z7, z6, GS.some_l, List.length_set, List.length_append, List.length_cons, List.length_nil] at * <;> first | with_reducible assumption | omega) | (simp only [z7, z6, GS.some_l, List.length_set, List.length_append, List.length_cons, List.length_nil, z8] at * <;> first | with_reducible assumption | omega) | (simp at * <;> omega)) (by first | assumption | omega)
theorem lp_orders_shown_3 (e : S_Estate) (items : GS Int) (s : Int) : ∀ (rest3 : List Int) (i3 : Nat) (hd3 : items.l.drop i3 = rest3) (hi3 : i3 ≤ items.l.length) (hall : ∀ i ∈ items.l, 0 ≤ i ∧ i < ((e.items.l.length : Nat) : Int)) (hL3 : items.l.length ≤ 1099511627776), (lim cfg).loop 77 lp77_3 ⟨43, [(2, I s), (3, .lref 0 0 3 0), (7, .sl true [] 0 none), (12, .sl items.nl (items.l.map I) (zsl items.nl 1) none), (13, I ((items.l.length : Nat) : Int)), (14, I ((i3 : Nat) : Int))], [(0, ⟨[.agg [.sl e.items.nl (e.items.l.map S_Item.D) (zsl e.items.nl 4) none, I e.whole.lo, I e.whole.hi]], 3, false⟩)], 1, 0⟩ = some (lr_orders_shown_3 e items s (orders_shown_3 e s rest3)) := by
  intro rest3
  induction rest3 with
  | nil =>
    intro i3 hd3 hi3 hall hL3
    unfold orders_shown_3
    obtain rfl : i3 = items.l.length := nil_eq hd3 hi3
    exact zO [.dec false] (And.intro (lt_no hd3) trivial) (by kernel_rfl)
  | cons x3 rest3 ih =>
    intro i3 hd3 hi3 hall hL3
    have hlt3 := zr hd3
    have hbx := hall x3 (mem_drop hd3)
    unfold orders_shown_3
    dsimp only
    exact po_turn [.dec true, .el (I x3), .el (.agg [I ((GS.at e.items x3).now.lo), I ((GS.at e.items x3).now.hi), I ((GS.at e.items x3).cost), I ((GS.at e.items x3).error)]), .pure (I (zj (GS.at e.items x3))), .rw 41 (I ((i3 + 1 : Nat) : Int))] (And.intro (yb (i := i3) (by have := zr hd3; omega)) (And.intro (T_orders_gain (GS.at e.items x3)) (And.intro (el_in (s := e.items) (f := S_Item.D) (k := 4) (i := x3) (by first | assumption | omega) (by first | assumption | omega)) (And.intro (el_at (s := items) (f := I) (k := 1) hd3) (And.intro (lt_at hd3) trivial))))) (lp_orders_shown_3a e items s _ (i3 + 1) (w64 (s - (imin s (zj (GS.at e.items x3))))) [w64 ((w64 (((GS.at e.items x3).now.lo) + ((GS.at e.items x3).error))) + (imin s (zj (GS.at e.items x3))))] (zJ hd3) (zr hd3) (by first | assumption | omega) (by first | assumption | omega | (simp only [z8] at * <;> omega) | (simp only [z7, z6, GS.some_l, List.length_set, List.length_append, List.length_cons, List.length_nil] at * <;> first | with_reducible assumption | omega) | (simp only [z7, z6, GS.some_l, List.length_set, List.length_append, List.length_cons, List.length_nil, z8] at * <;> first | with_reducible assumption | omega) | (simp at * <;> omega)) (by first | assumption | omega)) (by kernel_rfl)
theorem ivt_orders_shown_3 (e : S_Estate) (items : GS Int) (s : Int) : ∀ (rest3 : List Int) (i3 : Nat) (hd3 : items.l.drop i3 = rest3) (hi3 : i3 ≤ items.l.length) (hall : ∀ i ∈ items.l, 0 ≤ i ∧ i < ((e.items.l.length : Nat) : Int)) (hL3 : items.l.length ≤ 1099511627776), iv_orders_shown_3 e items s (orders_shown_3 e s rest3) := by
  intro rest3
  induction rest3 with
  | nil =>
    intro i3 hd3 hi3 hall hL3
    unfold orders_shown_3
    obtain rfl : i3 = items.l.length := nil_eq hd3 hi3
    exact trivial
  | cons x3 rest3 ih =>
    intro i3 hd3 hi3 hall hL3
    have hlt3 := zr hd3
    have hbx := hall x3 (mem_drop hd3)
    unfold orders_shown_3
    dsimp only
    exact ivt_orders_shown_3a e items s _ (i3 + 1) (w64 (s - (imin s (zj (GS.at e.items x3))))) [w64 ((w64 (((GS.at e.items x3).now.lo) + ((GS.at e.items x3).error))) + (imin s (zj (GS.at e.items x3))))] (zJ hd3) (zr hd3) (by first | assumption | omega) (by first | assumption | omega | (simp only [z8] at * <;> omega) | (simp only [z7, z6, GS.some_l, List.length_set, List.length_append, List.length_cons, List.length_nil] at * <;> first | with_reducible assumption | omega) | (simp only [z7, z6, GS.some_l, List.length_set, List.length_append, List.length_cons, List.length_nil, z8] at * <;> first | with_reducible assumption | omega) | (simp at * <;> omega)) (by first | assumption | omega)

def orders_shown (e : S_Estate) (items : GS Int) (s : Int) : (GS Int) :=
  match orders_shown_3 e s items.l with
  | .x0 va3_0 va3_1 =>
    GS.some va3_1
  | .x1 =>
    GS.nil

def sd46 (e : S_Estate) (items : GS Int) (va3_0 : Int) (va3_1 : List Int) : St := ⟨43, [(15, B false), (2, I va3_0), (3, .lref 0 0 3 0), (7, .lsl 1 0 va3_1.length 1 none), (12, .sl items.nl (items.l.map I) (zsl items.nl 1) none), (13, I ((items.l.length : Nat) : Int)), (14, I ((items.l.length : Nat) : Int))], [(0, ⟨[.agg [.sl e.items.nl (e.items.l.map S_Item.D) (zsl e.items.nl 4) none, I e.whole.lo, I e.whole.hi]], 3, false⟩), (1, ⟨va3_1.map I, 1, false⟩)], 2, 0⟩

def sd47 (e : S_Estate) (items : GS Int) (s : Int) : St := ⟨43, [(15, B false), (2, I s), (3, .lref 0 0 3 0), (7, .sl true [] 0 none), (12, .sl items.nl (items.l.map I) (zsl items.nl 1) none), (13, I ((items.l.length : Nat) : Int)), (14, I ((items.l.length : Nat) : Int))], [(0, ⟨[.agg [.sl e.items.nl (e.items.l.map S_Item.D) (zsl e.items.nl 4) none, I e.whole.lo, I e.whole.hi]], 3, false⟩)], 1, 0⟩

theorem T_orders_shown (e : S_Estate) (items : GS Int) (s : Int) (hall : ∀ i ∈ items.l, 0 ≤ i ∧ i < ((e.items.l.length : Nat) : Int)) (hL_items : items.l.length ≤ 1099511627776) : (lim cfg).pure 77 [S_Estate.D e, GS.D I 1 items, I s] = some (GS.D I 1 (orders_shown e items s)) := by
  unfold orders_shown
  cases h1 : orders_shown_3 e s items.l with
  | x0 va3_0 va3_1 =>
    try dsimp only
    have hv_h1 := ivt_orders_shown_3 e items s items.l 0 (List.drop_zero) (Nat.zero_le _) (by first | assumption | omega) (by first | assumption | omega)
    rw [h1] at hv_h1
    have hv_h1_0 := hv_h1
    try dsimp only [iv_orders_shown_3] at hv_h1_0
    exact po_pureS [.rw 13 (I ((items.l.length : Nat) : Int)), .loop (.exit 0) (sd46 e items va3_0 va3_1)] [(1, .sl false (va3_1.map I) 1 none, [1])] (And.intro (snap_row (gO := zD [(0, ⟨[.agg [.sl e.items.nl (e.items.l.map S_Item.D) (zsl e.items.nl 4) none, I e.whole.lo, I e.whole.hi]], 3, false⟩), (1, ⟨va3_1.map I, 1, false⟩)]) (o := 1) (len := va3_1.length) (cap := none) (fz := false) zU va3_1 (by kernel_rfl) (by first | assumption | omega)) (And.intro (po_lr (q := lr_orders_shown_3 e items s) (lp_orders_shown_3 e items s items.l 0 (List.drop_zero) (Nat.zero_le _) (by first | assumption | omega) (by first | assumption | omega)) h1) (And.intro (zh I items) trivial))) (by kernel_rfl)
  | x1 =>
    try dsimp only
    exact za [.rw 13 (I ((items.l.length : Nat) : Int)), .loop (.exit 0) (sd47 e items s)] (And.intro (po_lr (q := lr_orders_shown_3 e items s) (lp_orders_shown_3 e items s items.l 0 (List.drop_zero) (Nat.zero_le _) (by first | assumption | omega) (by first | assumption | omega)) h1) (And.intro (zh I items) trivial)) (by kernel_rfl)

def orders_Attain (e : S_Estate) (items : GS Int) : (GS Int) × Int :=
  bif ((zB e items) != 0) then
    (GS.nil, (zB e items))
  else
    ((orders_shown e items ((orders_window_widest (zd e (zk (zf e items)))).2)), 0)

inductive LR_orders_numbers_3 where
  | x0 (i3 : Nat) (va3_0 : List Int)
  | x1 (i3 : Nat)
instance : Inhabited LR_orders_numbers_3 := ⟨.x0 default default⟩
def orders_numbers_3a : Nat → Nat → (List Int) → LR_orders_numbers_3
  | 0, i3, va3_0 => .x0 i3 va3_0
  | rest3 + 1, i3, va3_0 =>
    orders_numbers_3a rest3 (i3 + 1) (va3_0 ++ [((i3 : Nat) : Int)])
def orders_numbers_3 : Nat → Nat → LR_orders_numbers_3
  | 0, i3 => .x1 i3
  | rest3 + 1, i3 =>
    orders_numbers_3a rest3 (i3 + 1) [((i3 : Nat) : Int)]
def orders_numbers (n : Int) : (GS Int) :=
  match orders_numbers_3 (n - 0).toNat 0 with
  | .x0 i3 va3_0 =>
    GS.some va3_0
  | .x1 i3 =>
    GS.nil

end Go.VS

namespace Go.VS
open Go Go.Proofs
set_option maxHeartbeats 0
set_option linter.unusedSimpArgs false
set_option linter.unusedVariables false
def upto (n : Int) : List Int := (List.range n.toNat).map (fun i => ((i : Nat) : Int))
theorem upto_mem {n : Int} : ∀ i ∈ upto n, 0 ≤ i ∧ i < n := by
  intro i hi
  obtain ⟨j, hj, rfl⟩ := List.mem_map.1 hi
  have := List.mem_range.1 hj
  omega
theorem numbers_l (n : Int) : (orders_numbers n).l = upto n ∧ (orders_numbers n).nl = (upto n).isEmpty := by
  have key : ∀ (k i : Nat) (v : List Int), ∃ j, orders_numbers_3a k i v = .x0 j (v ++ (List.range' i k).map (fun i => ((i : Nat) : Int))) := by
    intro k
    induction k with
    | zero => intro i v; exact ⟨i, by simp [orders_numbers_3a]⟩
    | succ k ih => intro i v; obtain ⟨j, hj⟩ := ih (i + 1) (v ++ [((i : Nat) : Int)]); exact ⟨j, by rw [orders_numbers_3a, hj, List.range'_succ]; simp⟩
  unfold orders_numbers upto
  rw [show n - 0 = n by omega]
  cases n.toNat with
  | zero => exact ⟨rfl, rfl⟩
  | succ k =>
    obtain ⟨j, hj⟩ := key k 1 [((0 : Nat) : Int)]
    rw [orders_numbers_3, hj, List.range_eq_range', List.range'_succ]
    exact ⟨rfl, rfl⟩
theorem zc {n : Int} : ∀ i ∈ (orders_numbers n).l, 0 ≤ i ∧ i < n := by rw [(numbers_l n).1]; exact upto_mem
theorem upto_len {n : Int} : (upto n).length = n.toNat := by unfold upto; simp
theorem z5 {n : Int} : (orders_numbers n).l.length = n.toNat := by rw [(numbers_l n).1, upto_len]

def orders_Gains (e : S_Estate) : (GS Int) × Int :=
  bif ((zN e) != 0) then
    (GS.nil, (zN e))
  else
    ((zf e (orders_numbers ((e.items.l.length : Nat) : Int))), 0)

def zG (e : S_Estate) (items : GS Int) (low : Int) (high : Int) : (GS Int) × Bool :=
  bif decide ((imax ((zn (zd e (zk (zf e items)))).1) (w64 ((w64 (low + 1)) - ((zd e (zk (zf e items))).at_.hi)))) > ((zn (zd e (zk (zf e items)))).2)) then
    (GS.nil, false)
  else
    bif decide (((zS (zd e (zk (zf e items))) (imax ((zn (zd e (zk (zf e items)))).1) (w64 ((w64 (low + 1)) - ((zd e (zk (zf e items))).at_.hi))))).lo) ≥ high) then
      (GS.nil, false)
    else
      bif decide (((zS (zd e (zk (zf e items))) (imax ((zn (zd e (zk (zf e items)))).1) (w64 ((w64 (low + 1)) - ((zd e (zk (zf e items))).at_.hi))))).hi) ≤ low) then
        (GS.nil, false)
      else
        ((orders_shown e items (imax ((zn (zd e (zk (zf e items)))).1) (w64 ((w64 (low + 1)) - ((zd e (zk (zf e items))).at_.hi))))), true)

def orders_open_o1 (e : S_Estate) (items : GS Int) : List Ora := [.pure (.sl ((zf e items).nl) (((zf e items).l).map I) (zsl ((zf e items).nl) 1) none), .pure (I (zk (zf e items))), .pure (.agg [I ((zd e (zk (zf e items))).at_.lo), I ((zd e (zk (zf e items))).at_.hi), I ((zd e (zk (zf e items))).room_), I ((zd e (zk (zf e items))).whole_.lo), I ((zd e (zk (zf e items))).whole_.hi)]), .pure (.tup [I ((zn (zd e (zk (zf e items)))).1), I ((zn (zd e (zk (zf e items)))).2)])]

def orders_open_o2 (e : S_Estate) (items : GS Int) (low : Int) : List Ora := [.dec false, .pure (.agg [I ((zS (zd e (zk (zf e items))) (imax ((zn (zd e (zk (zf e items)))).1) (w64 ((w64 (low + 1)) - ((zd e (zk (zf e items))).at_.hi))))).lo), I ((zS (zd e (zk (zf e items))) (imax ((zn (zd e (zk (zf e items)))).1) (w64 ((w64 (low + 1)) - ((zd e (zk (zf e items))).at_.hi))))).hi)])]

theorem T_orders_open (e : S_Estate) (items : GS Int) (low : Int) (high : Int) (hall : ∀ i ∈ items.l, 0 ≤ i ∧ i < ((e.items.l.length : Nat) : Int)) (hL_items : items.l.length ≤ 1099511627776) (hL_e_items : e.items.l.length ≤ 9223372036854775807) : (lim cfg).pure 69 [S_Estate.D e, GS.D I 1 items, I low, I high] = some (.tup [GS.D I 1 ((zG e items low high).1), B ((zG e items low high).2)]) := by
  unfold zG
  have p1 := (T_orders_gains e items (by first | assumption | omega) (by first | assumption | omega))
  have p2 := (T_orders_total (zf e items) (by first | assumption | omega | (with_reducible exact zc) | (simp only [z8] at * <;> omega) | (simp only [z7, z6, z5, GS.some_l, List.length_set, List.length_append, List.length_cons, List.length_nil] at * <;> first | with_reducible assumption | omega) | (simp only [z7, z6, z5, GS.some_l, List.length_set, List.length_append, List.length_cons, List.length_nil, z8] at * <;> first | with_reducible assumption | omega) | (simp at * <;> omega)))
  have p3 := (T_orders_windowOf e (zk (zf e items)) (by first | assumption | omega))
  have p4 := (T_orders_window_ends (zd e (zk (zf e items))))
  cases h1 : decide ((imax ((zn (zd e (zk (zf e items)))).1) (w64 ((w64 (low + 1)) - ((zd e (zk (zf e items))).at_.hi)))) > ((zn (zd e (zk (zf e items)))).2)) with
  | true =>
    have g1 := of_decide_eq_true h1
    exact za ((orders_open_o1 e items) ++ [.dec true]) (And.intro h1 (And.intro p4 (And.intro p3 (And.intro p2 (And.intro p1 trivial))))) (by kernel_rfl)
  | false =>
    have g1 := of_decide_eq_false h1
    have p5 := (T_orders_window_seen (zd e (zk (zf e items))) (imax ((zn (zd e (zk (zf e items)))).1) (w64 ((w64 (low + 1)) - ((zd e (zk (zf e items))).at_.hi)))))
    cases h2 : decide (((zS (zd e (zk (zf e items))) (imax ((zn (zd e (zk (zf e items)))).1) (w64 ((w64 (low + 1)) - ((zd e (zk (zf e items))).at_.hi))))).lo) ≥ high) with
    | true =>
      have g2 := of_decide_eq_true h2
      exact za ((orders_open_o1 e items) ++ ((orders_open_o2 e items low) ++ [.dec true])) (And.intro h2 (And.intro p5 (And.intro h1 (And.intro p4 (And.intro p3 (And.intro p2 (And.intro p1 trivial))))))) (by kernel_rfl)
    | false =>
      have g2 := of_decide_eq_false h2
      cases h3 : decide (((zS (zd e (zk (zf e items))) (imax ((zn (zd e (zk (zf e items)))).1) (w64 ((w64 (low + 1)) - ((zd e (zk (zf e items))).at_.hi))))).hi) ≤ low) with
      | true =>
        have g3 := of_decide_eq_true h3
        exact za ((orders_open_o1 e items) ++ ((orders_open_o2 e items low) ++ [.dec false, .dec true])) (And.intro h3 (And.intro h2 (And.intro p5 (And.intro h1 (And.intro p4 (And.intro p3 (And.intro p2 (And.intro p1 trivial)))))))) (by kernel_rfl)
      | false =>
        have g3 := of_decide_eq_false h3
        exact za ((orders_open_o1 e items) ++ ((orders_open_o2 e items low) ++ [.dec false, .dec false, .pure (.sl ((orders_shown e items (imax ((zn (zd e (zk (zf e items)))).1) (w64 ((w64 (low + 1)) - ((zd e (zk (zf e items))).at_.hi))))).nl) (((orders_shown e items (imax ((zn (zd e (zk (zf e items)))).1) (w64 ((w64 (low + 1)) - ((zd e (zk (zf e items))).at_.hi))))).l).map I) (zsl ((orders_shown e items (imax ((zn (zd e (zk (zf e items)))).1) (w64 ((w64 (low + 1)) - ((zd e (zk (zf e items))).at_.hi))))).nl) 1) none)])) (And.intro (T_orders_shown e items (imax ((zn (zd e (zk (zf e items)))).1) (w64 ((w64 (low + 1)) - ((zd e (zk (zf e items))).at_.hi)))) (by first | assumption | omega) (by first | assumption | omega)) (And.intro h3 (And.intro h2 (And.intro p5 (And.intro h1 (And.intro p4 (And.intro p3 (And.intro p2 (And.intro p1 trivial))))))))) (by kernel_rfl)

def zF (e : S_Estate) (items : GS Int) (low : Int) (high : Int) : Int :=
  bif ((zB e items) != 0) then
    (zB e items)
  else
    bif decide (low ≥ high) then
      1
    else
      bif decide (low < (-1099511627776)) then
        1
      else
        bif decide (high > 1099511627776) then
          1
        else
          0

theorem T_orders_bounds (e : S_Estate) (items : GS Int) (low : Int) (high : Int) (hL : items.l.length ≤ 9223372036854775807) : (lim cfg).pure 68 [S_Estate.D e, GS.D I 1 items, I low, I high] = some (I (zF e items low high)) := by
  unfold zF
  cases h1 : ((zB e items) != 0) with
  | true =>
    have g1 := bne_true h1
    exact za [.pure (I (zB e items)), .dec true] (And.intro h1 (And.intro (T_orders_right e items (by first | assumption | omega)) trivial)) (by kernel_rfl)
  | false =>
    obtain ⟨g1, gb1⟩ := And.intro (right_ok (by assumption) (bne_false h1)) (right_all (by assumption) (bne_false h1))
    cases h2 : decide (low ≥ high) with
    | true =>
      have g2 := of_decide_eq_true h2
      exact za [.pure (I (zB e items)), .dec false, .dec true] (And.intro h2 (And.intro h1 (And.intro (T_orders_right e items (by first | assumption | omega)) trivial))) (by kernel_rfl)
    | false =>
      have g2 := of_decide_eq_false h2
      cases h3 : decide (low < (-1099511627776)) with
      | true =>
        have g3 := of_decide_eq_true h3
        exact za [.pure (I (zB e items)), .dec false, .dec false, .dec true] (And.intro h3 (And.intro h2 (And.intro h1 (And.intro (T_orders_right e items (by first | assumption | omega)) trivial)))) (by kernel_rfl)
      | false =>
        have g3 := of_decide_eq_false h3
        cases h4 : decide (high > 1099511627776) with
        | true =>
          have g4 := of_decide_eq_true h4
          exact za [.pure (I (zB e items)), .dec false, .dec false, .dec false, .dec true] (And.intro h4 (And.intro h3 (And.intro h2 (And.intro h1 (And.intro (T_orders_right e items (by first | assumption | omega)) trivial))))) (by kernel_rfl)
        | false =>
          have g4 := of_decide_eq_false h4
          exact za [.pure (I (zB e items)), .dec false, .dec false, .dec false, .dec false] (And.intro h4 (And.intro h3 (And.intro h2 (And.intro h1 (And.intro (T_orders_right e items (by first | assumption | omega)) trivial))))) (by kernel_rfl)

theorem bounds_iff {e : S_Estate} {items : GS Int} {low high : Int} : zF e items low high = 0 ↔ zB e items = 0 ∧ low < high ∧ -1099511627776 ≤ low ∧ high ≤ 1099511627776 := by
  unfold zF
  cases h : (zB e items != 0) with
  | true =>
    have := bne_true h
    simp only [cond_true]
    exact ⟨fun h => absurd h this, fun h => h.1⟩
  | false =>
    have h' := bne_false h
    simp only [cond_false, Bool.cond_decide]
    split
    · simp; omega
    · split
      · simp; omega
      · split
        · simp; omega
        · simp; omega

def ze (e : S_Estate) (items : GS Int) (low : Int) (high : Int) : (GS Int) × Bool × Int :=
  bif ((zF e items low high) != 0) then
    (GS.nil, false, (zF e items low high))
  else
    bif ((zG e items low high).2) then
      (((zG e items low high).1), true, 0)
    else
      (((zG e items low high).1), false, 0)

def orders_Open_o1 (e : S_Estate) (items : GS Int) (low : Int) (high : Int) : List Ora := [.pure (I (zF e items low high)), .dec false, .pure (.tup [.sl (((zG e items low high).1).nl) ((((zG e items low high).1).l).map I) (zsl (((zG e items low high).1).nl) 1) none, B ((zG e items low high).2)])]

theorem T_orders_Open (e : S_Estate) (items : GS Int) (low : Int) (high : Int) (hL : items.l.length ≤ 9223372036854775807) : (lim cfg).pure 21 [S_Estate.D e, GS.D I 1 items, I low, I high] = some (.tup [GS.D I 1 ((ze e items low high).1), B ((ze e items low high).2.1), I ((ze e items low high).2.2)]) := by
  unfold ze
  have p1 := (T_orders_bounds e items low high (by first | assumption | omega))
  cases h1 : ((zF e items low high) != 0) with
  | true =>
    have g1 := bne_true h1
    exact za [.pure (I (zF e items low high)), .dec true] (And.intro h1 (And.intro p1 trivial)) (by kernel_rfl)
  | false =>
    obtain ⟨g1, gb1⟩ := And.intro (right_ok (by assumption) (bounds_iff.1 (bne_false h1)).1) (right_all (by assumption) (bounds_iff.1 (bne_false h1)).1)
    have p2 := (T_orders_open e items low high (by first | assumption | omega) (by first | assumption | omega) (by first | assumption | omega))
    cases h2 : ((zG e items low high).2) with
    | true =>
      exact za ((orders_Open_o1 e items low high) ++ [.dec true]) (And.intro h2 (And.intro p2 (And.intro h1 (And.intro p1 trivial)))) (by kernel_rfl)
    | false =>
      exact za ((orders_Open_o1 e items low high) ++ [.dec false]) (And.intro h2 (And.intro p2 (And.intro h1 (And.intro p1 trivial)))) (by kernel_rfl)

def y8 (e : S_Estate) (items : GS Int) (low : Int) (high : Int) : Bool × Int :=
  bif ((zF e items low high) != 0) then
    (false, (zF e items low high))
  else
    bif ((zG e items low high).2) then
      (false, 0)
    else
      (true, 0)

def orders_Decides_o1 (e : S_Estate) (items : GS Int) (low : Int) (high : Int) : List Ora := [.pure (I (zF e items low high)), .dec false, .pure (.tup [.sl (((zG e items low high).1).nl) ((((zG e items low high).1).l).map I) (zsl (((zG e items low high).1).nl) 1) none, B ((zG e items low high).2)])]

theorem T_orders_Decides (e : S_Estate) (items : GS Int) (low : Int) (high : Int) (hL : items.l.length ≤ 9223372036854775807) : (lim cfg).pure 17 [S_Estate.D e, GS.D I 1 items, I low, I high] = some (.tup [B ((y8 e items low high).1), I ((y8 e items low high).2)]) := by
  unfold y8
  have p1 := (T_orders_bounds e items low high (by first | assumption | omega))
  cases h1 : ((zF e items low high) != 0) with
  | true =>
    have g1 := bne_true h1
    exact za [.pure (I (zF e items low high)), .dec true] (And.intro h1 (And.intro p1 trivial)) (by kernel_rfl)
  | false =>
    obtain ⟨g1, gb1⟩ := And.intro (right_ok (by assumption) (bounds_iff.1 (bne_false h1)).1) (right_all (by assumption) (bounds_iff.1 (bne_false h1)).1)
    have p2 := (T_orders_open e items low high (by first | assumption | omega) (by first | assumption | omega) (by first | assumption | omega))
    cases h2 : ((zG e items low high).2) with
    | true =>
      exact za ((orders_Decides_o1 e items low high) ++ [.dec true]) (And.intro h2 (And.intro p2 (And.intro h1 (And.intro p1 trivial)))) (by kernel_rfl)
    | false =>
      exact za ((orders_Decides_o1 e items low high) ++ [.dec false]) (And.intro h2 (And.intro p2 (And.intro h1 (And.intro p1 trivial)))) (by kernel_rfl)
end Go.VS

namespace Go.VS
open Go Go.Proofs
set_option maxHeartbeats 0
set_option linter.unusedSimpArgs false
set_option linter.unusedVariables false
end Go.VS

/-
  Orders: sorting few numbers; the widest span that is left. (A text of this claim's own; nothing of it is trusted.)
-/
namespace Go.VS
/-! ### sorting -/
/-! ### the widest -/
/-- A window's numbers are not out of bounds. -/
structure Wk (w : S_window) : Prop where
  l0 : 0 ≤ w.at_.lo
  l1 : w.at_.lo ≤ w.at_.hi
  l2 : w.at_.hi + w.room_ ≤ 12884901888
  r0 : 0 ≤ w.room_
  w0 : 0 ≤ w.whole_.lo
  w1 : w.whole_.lo ≤ w.whole_.hi
  w2 : w.whole_.hi ≤ 17179869184
  m0 : w.at_.lo ≤ w.whole_.hi
  m1 : w.whole_.lo ≤ w.at_.hi + w.room_
def wlo (w : S_window) : Int := max 0 (w.whole_.lo - w.at_.hi)
def whi (w : S_window) : Int := min w.room_ (w.whole_.hi - w.at_.lo)
/-- The width if so much is added. -/
def wf (w : S_window) (s : Int) : Int := min (w.at_.hi + s) w.whole_.hi - max (w.at_.lo + s) w.whole_.lo
theorem ends_eq {w : S_window} (h : Wk w) : zn w = (wlo w, whi w) := by
  obtain ⟨a, b, c, d, e, f, g, i, j⟩ := h
  unfold zn wlo whi
  rw [imax_eq, imin_eq, w64_eq (by omega) (by omega), w64_eq (by omega) (by omega)]
theorem seen_eq {w : S_window} (h : Wk w) {s : Int} (h0 : 0 ≤ s) (h1 : s ≤ w.room_) : zS w s = ⟨max (w.at_.lo + s) w.whole_.lo, min (w.at_.hi + s) w.whole_.hi⟩ := by
  obtain ⟨a, b, c, d, e, f, g, i, j⟩ := h
  unfold zS
  rw [w64_eq (by omega) (by omega), w64_eq (by omega) (by omega), common_eq]
  simp only []
  cases decide (max (w.at_.lo + s) w.whole_.lo ≤ min (w.at_.hi + s) w.whole_.hi) <;> rfl
end Go.VS

namespace Go.VS
open Go Go.Proofs
set_option maxHeartbeats 0
set_option linter.unusedSimpArgs false
set_option linter.unusedVariables false
noncomputable def lp107_2 : Code := subC [1, 0, 1, 0, 0] (bodyC Tryz.f107)

inductive LR_r_Right_2 where
  | x0
  | x1 (i2 : Nat) (x2 : Int)
  | x2 (i2 : Nat) (x2 : Int)
  | x3 (i2 : Nat) (x2 : Int)
instance : Inhabited LR_r_Right_2 := ⟨.x0⟩
def r_Right_2 (e : S_Estate) (items : GS Int) : List Int → Nat → LR_r_Right_2
  | [], i2 => .x0
  | x2 :: rest2, i2 =>
    bif decide (x2 < 0) then
      .x1 i2 x2
    else
      bif decide (x2 ≥ ((e.items.l.length : Nat) : Int)) then
        .x2 i2 x2
      else
        bif decide (((i2 : Nat) : Int) > 0) then
          bif decide ((GS.at items (w64 (((i2 : Nat) : Int) - 1))) ≥ x2) then
            .x3 i2 x2
          else
            r_Right_2 e items rest2 (i2 + 1)
        else
          r_Right_2 e items rest2 (i2 + 1)
def lr_r_Right_2 (e : S_Estate) (items : GS Int) : LR_r_Right_2 → Exit × St
  | .x0 => ((.exit 0), ⟨43, [(9, B false), (8, I ((items.l.length : Nat) : Int)), (7, .sl items.nl (items.l.map I) (zsl items.nl 1) none), (6, I ((items.l.length : Nat) : Int)), (1, .sl items.nl (items.l.map I) (zsl items.nl 1) none), (2, .lref 0 0 3 0), (5, I ((items.l.length : Nat) : Int))], [(0, ⟨[.agg [.sl e.items.nl (e.items.l.map S_Item.D) (zsl e.items.nl 4) none, I e.whole.lo, I e.whole.hi]], 3, false⟩)], 1, 0⟩)
  | .x1 i2 x2 => (.ret, ⟨43, [(4, B false), (42, B true), (41, .tup []), (40, .tup []), (39, .tup []), (38, .tup []), (37, .tup []), (36, .tup []), (35, .tup []), (34, .tup []), (33, .tup []), (32, .tup []), (31, .tup []), (30, .tup []), (29, .tup []), (28, .tup []), (27, B true), (26, B true), (25, .tup []), (24, .tup []), (23, .tup []), (22, .tup []), (21, .tup []), (20, .tup []), (19, .tup []), (18, .tup []), (17, B true), (16, B true), (15, I x2), (14, .ptr (I x2)), (13, I ((i2 : Nat) : Int)), (12, .sl items.nl (items.l.map I) (zsl items.nl 1) none), (9, B true), (8, I ((items.l.length : Nat) : Int)), (7, .sl items.nl (items.l.map I) (zsl items.nl 1) none), (6, I ((i2 : Nat) : Int)), (1, .sl items.nl (items.l.map I) (zsl items.nl 1) none), (2, .lref 0 0 3 0), (5, I ((i2 : Nat) : Int))], [(0, ⟨[.agg [.sl e.items.nl (e.items.l.map S_Item.D) (zsl e.items.nl 4) none, I e.whole.lo, I e.whole.hi]], 3, false⟩)], 1, 0⟩)
  | .x2 i2 x2 => (.ret, ⟨43, [(4, B false), (42, B true), (41, .tup []), (40, .tup []), (39, .tup []), (38, .tup []), (37, .tup []), (36, .tup []), (35, .tup []), (34, .tup []), (33, .tup []), (32, .tup []), (31, .tup []), (30, .tup []), (29, .tup []), (28, .tup []), (27, B true), (26, B true), (25, B true), (24, I ((e.items.l.length : Nat) : Int)), (23, .sl e.items.nl (e.items.l.map S_Item.D) (zsl e.items.nl 4) none), (22, .lref 0 0 3 0), (21, I x2), (20, .ptr (I x2)), (19, I ((i2 : Nat) : Int)), (18, .sl items.nl (items.l.map I) (zsl items.nl 1) none), (17, B false), (16, B false), (15, I x2), (14, .ptr (I x2)), (13, I ((i2 : Nat) : Int)), (12, .sl items.nl (items.l.map I) (zsl items.nl 1) none), (9, B true), (8, I ((items.l.length : Nat) : Int)), (7, .sl items.nl (items.l.map I) (zsl items.nl 1) none), (6, I ((i2 : Nat) : Int)), (1, .sl items.nl (items.l.map I) (zsl items.nl 1) none), (2, .lref 0 0 3 0), (5, I ((i2 : Nat) : Int))], [(0, ⟨[.agg [.sl e.items.nl (e.items.l.map S_Item.D) (zsl e.items.nl 4) none, I e.whole.lo, I e.whole.hi]], 3, false⟩)], 1, 0⟩)
  | .x3 i2 x2 => (.ret, ⟨43, [(4, B false), (42, B true), (41, B true), (40, B true), (39, I x2), (38, .ptr (I x2)), (37, I ((i2 : Nat) : Int)), (36, .sl items.nl (items.l.map I) (zsl items.nl 1) none), (35, I (GS.at items (w64 (((i2 : Nat) : Int) - 1)))), (34, .ptr (I (GS.at items (w64 (((i2 : Nat) : Int) - 1))))), (33, I (w64 (((i2 : Nat) : Int) - 1))), (32, I ((i2 : Nat) : Int)), (31, .sl items.nl (items.l.map I) (zsl items.nl 1) none), (30, B true), (29, B true), (28, I ((i2 : Nat) : Int)), (27, B false), (26, B false), (25, B false), (24, I ((e.items.l.length : Nat) : Int)), (23, .sl e.items.nl (e.items.l.map S_Item.D) (zsl e.items.nl 4) none), (22, .lref 0 0 3 0), (21, I x2), (20, .ptr (I x2)), (19, I ((i2 : Nat) : Int)), (18, .sl items.nl (items.l.map I) (zsl items.nl 1) none), (17, B false), (16, B false), (15, I x2), (14, .ptr (I x2)), (13, I ((i2 : Nat) : Int)), (12, .sl items.nl (items.l.map I) (zsl items.nl 1) none), (9, B true), (8, I ((items.l.length : Nat) : Int)), (7, .sl items.nl (items.l.map I) (zsl items.nl 1) none), (6, I ((i2 : Nat) : Int)), (1, .sl items.nl (items.l.map I) (zsl items.nl 1) none), (2, .lref 0 0 3 0), (5, I ((i2 : Nat) : Int))], [(0, ⟨[.agg [.sl e.items.nl (e.items.l.map S_Item.D) (zsl e.items.nl 4) none, I e.whole.lo, I e.whole.hi]], 3, false⟩)], 1, 0⟩)
def r_Right_2_l_o1 (e : S_Estate) (items : GS Int) (x2 : Int) : List Ora := [.rw 8 (I ((items.l.length : Nat) : Int)), .dec true, .el (I x2), .dec false, .el (I x2), .rw 24 (I ((e.items.l.length : Nat) : Int))]
theorem lp_r_Right_2 (e : S_Estate) (items : GS Int) : ∀ (rest2 : List Int) (i2 : Nat) (hd2 : items.l.drop i2 = rest2) (hi2 : i2 ≤ items.l.length) (hL2 : items.l.length ≤ 9223372036854775807), (lim cfg).loop 107 lp107_2 ⟨43, [(1, .sl items.nl (items.l.map I) (zsl items.nl 1) none), (2, .lref 0 0 3 0), (5, I ((i2 : Nat) : Int))], [(0, ⟨[.agg [.sl e.items.nl (e.items.l.map S_Item.D) (zsl e.items.nl 4) none, I e.whole.lo, I e.whole.hi]], 3, false⟩)], 1, 0⟩ = some (lr_r_Right_2 e items (r_Right_2 e items rest2 i2)) := by
  intro rest2
  induction rest2 with
  | nil =>
    intro i2 hd2 hi2 hL2
    unfold r_Right_2
    obtain rfl : i2 = items.l.length := nil_eq hd2 hi2
    exact zO [.rw 8 (I ((items.l.length : Nat) : Int)), .dec false] (And.intro (lt_no hd2) (And.intro (zh I items) trivial)) (by kernel_rfl)
  | cons x2 rest2 ih =>
    intro i2 hd2 hi2 hL2
    have hlt2 := zr hd2
    unfold r_Right_2
    have p1 := (el_at (s := items) (f := I) (k := 1) hd2)
    cases h5 : decide (x2 < 0) with
    | true =>
      have g5 := of_decide_eq_true h5
      exact zO [.rw 8 (I ((items.l.length : Nat) : Int)), .dec true, .el (I x2), .dec true] (And.intro h5 (And.intro p1 (And.intro (lt_at hd2) (And.intro (zh I items) trivial)))) (by kernel_rfl)
    | false =>
      have g5 := of_decide_eq_false h5
      have p2 := (el_at (s := items) (f := I) (k := 1) hd2)
      cases h6 : decide (x2 ≥ ((e.items.l.length : Nat) : Int)) with
      | true =>
        have g6 := of_decide_eq_true h6
        exact zO ((r_Right_2_l_o1 e items x2) ++ [.dec true]) (And.intro h6 (And.intro (zh S_Item.D e.items) (And.intro p2 (And.intro h5 (And.intro p1 (And.intro (lt_at hd2) (And.intro (zh I items) trivial))))))) (by kernel_rfl)
      | false =>
        have g6 := of_decide_eq_false h6
        cases h7 : decide (((i2 : Nat) : Int) > 0) with
        | true =>
          have g7 := of_decide_eq_true h7
          have p3 := (el_in (s := items) (f := I) (k := 1) (i := w64 (((i2 : Nat) : Int) - 1)) (by first | assumption | omega | (with_reducible exact zc) | (simp only [z8] at * <;> omega) | (simp only [z7, z6, z5, GS.some_l, List.length_set, List.length_append, List.length_cons, List.length_nil] at * <;> first | with_reducible assumption | omega) | (simp only [z7, z6, z5, GS.some_l, List.length_set, List.length_append, List.length_cons, List.length_nil, z8] at * <;> first | with_reducible assumption | omega) | (simp at * <;> omega)) (by first | assumption | omega | (with_reducible exact zc) | (simp only [z8] at * <;> omega) | (simp only [z7, z6, z5, GS.some_l, List.length_set, List.length_append, List.length_cons, List.length_nil] at * <;> first | with_reducible assumption | omega) | (simp only [z7, z6, z5, GS.some_l, List.length_set, List.length_append, List.length_cons, List.length_nil, z8] at * <;> first | with_reducible assumption | omega) | (simp at * <;> omega)))
          have p4 := (el_at (s := items) (f := I) (k := 1) hd2)
          cases h8 : decide ((GS.at items (w64 (((i2 : Nat) : Int) - 1))) ≥ x2) with
          | true =>
            have g8 := of_decide_eq_true h8
            exact zO ((r_Right_2_l_o1 e items x2) ++ [.dec false, .dec true, .el (I (GS.at items (w64 (((i2 : Nat) : Int) - 1)))), .el (I x2), .dec true]) (And.intro h8 (And.intro p4 (And.intro p3 (And.intro h7 (And.intro h6 (And.intro (zh S_Item.D e.items) (And.intro p2 (And.intro h5 (And.intro p1 (And.intro (lt_at hd2) (And.intro (zh I items) trivial))))))))))) (by kernel_rfl)
          | false =>
            have g8 := of_decide_eq_false h8
            exact po_turn ((r_Right_2_l_o1 e items x2) ++ [.dec false, .dec true, .el (I (GS.at items (w64 (((i2 : Nat) : Int) - 1)))), .el (I x2), .dec false, .rw 11 (I ((i2 + 1 : Nat) : Int))]) (And.intro (yb (i := i2) (by have := zr hd2; omega)) (And.intro h8 (And.intro p4 (And.intro p3 (And.intro h7 (And.intro h6 (And.intro (zh S_Item.D e.items) (And.intro p2 (And.intro h5 (And.intro p1 (And.intro (lt_at hd2) (And.intro (zh I items) trivial)))))))))))) (ih (i2 + 1) (zJ hd2) (zr hd2) (by first | assumption | omega | (with_reducible exact zc) | (simp only [z8] at * <;> omega) | (simp only [z7, z6, z5, GS.some_l, List.length_set, List.length_append, List.length_cons, List.length_nil] at * <;> first | with_reducible assumption | omega) | (simp only [z7, z6, z5, GS.some_l, List.length_set, List.length_append, List.length_cons, List.length_nil, z8] at * <;> first | with_reducible assumption | omega) | (simp at * <;> omega))) (by kernel_rfl)
        | false =>
          have g7 := of_decide_eq_false h7
          exact po_turn ((r_Right_2_l_o1 e items x2) ++ [.dec false, .dec false, .rw 11 (I ((i2 + 1 : Nat) : Int))]) (And.intro (yb (i := i2) (by have := zr hd2; omega)) (And.intro h7 (And.intro h6 (And.intro (zh S_Item.D e.items) (And.intro p2 (And.intro h5 (And.intro p1 (And.intro (lt_at hd2) (And.intro (zh I items) trivial))))))))) (ih (i2 + 1) (zJ hd2) (zr hd2) (by first | assumption | omega | (with_reducible exact zc) | (simp only [z8] at * <;> omega) | (simp only [z7, z6, z5, GS.some_l, List.length_set, List.length_append, List.length_cons, List.length_nil] at * <;> first | with_reducible assumption | omega) | (simp only [z7, z6, z5, GS.some_l, List.length_set, List.length_append, List.length_cons, List.length_nil, z8] at * <;> first | with_reducible assumption | omega) | (simp at * <;> omega))) (by kernel_rfl)

def r_Right (e : S_Estate) (items : GS Int) : Bool :=
  match r_Right_2 e items items.l 0 with
  | .x0 =>
    true
  | .x1 i2 x2 =>
    false
  | .x2 i2 x2 =>
    false
  | .x3 i2 x2 =>
    false

def sd50 (e : S_Estate) (items : GS Int) : St := ⟨43, [(9, B false), (8, I ((items.l.length : Nat) : Int)), (7, .sl items.nl (items.l.map I) (zsl items.nl 1) none), (6, I ((items.l.length : Nat) : Int)), (1, .sl items.nl (items.l.map I) (zsl items.nl 1) none), (2, .lref 0 0 3 0), (5, I ((items.l.length : Nat) : Int))], [(0, ⟨[.agg [.sl e.items.nl (e.items.l.map S_Item.D) (zsl e.items.nl 4) none, I e.whole.lo, I e.whole.hi]], 3, false⟩)], 1, 0⟩

def sd51 (e : S_Estate) (items : GS Int) (i2 : Nat) (x2 : Int) : St := ⟨43, [(4, B false), (42, B true), (41, .tup []), (40, .tup []), (39, .tup []), (38, .tup []), (37, .tup []), (36, .tup []), (35, .tup []), (34, .tup []), (33, .tup []), (32, .tup []), (31, .tup []), (30, .tup []), (29, .tup []), (28, .tup []), (27, B true), (26, B true), (25, .tup []), (24, .tup []), (23, .tup []), (22, .tup []), (21, .tup []), (20, .tup []), (19, .tup []), (18, .tup []), (17, B true), (16, B true), (15, I x2), (14, .ptr (I x2)), (13, I ((i2 : Nat) : Int)), (12, .sl items.nl (items.l.map I) (zsl items.nl 1) none), (9, B true), (8, I ((items.l.length : Nat) : Int)), (7, .sl items.nl (items.l.map I) (zsl items.nl 1) none), (6, I ((i2 : Nat) : Int)), (1, .sl items.nl (items.l.map I) (zsl items.nl 1) none), (2, .lref 0 0 3 0), (5, I ((i2 : Nat) : Int))], [(0, ⟨[.agg [.sl e.items.nl (e.items.l.map S_Item.D) (zsl e.items.nl 4) none, I e.whole.lo, I e.whole.hi]], 3, false⟩)], 1, 0⟩

def sd52 (e : S_Estate) (items : GS Int) (i2 : Nat) (x2 : Int) : St := ⟨43, [(4, B false), (42, B true), (41, .tup []), (40, .tup []), (39, .tup []), (38, .tup []), (37, .tup []), (36, .tup []), (35, .tup []), (34, .tup []), (33, .tup []), (32, .tup []), (31, .tup []), (30, .tup []), (29, .tup []), (28, .tup []), (27, B true), (26, B true), (25, B true), (24, I ((e.items.l.length : Nat) : Int)), (23, .sl e.items.nl (e.items.l.map S_Item.D) (zsl e.items.nl 4) none), (22, .lref 0 0 3 0), (21, I x2), (20, .ptr (I x2)), (19, I ((i2 : Nat) : Int)), (18, .sl items.nl (items.l.map I) (zsl items.nl 1) none), (17, B false), (16, B false), (15, I x2), (14, .ptr (I x2)), (13, I ((i2 : Nat) : Int)), (12, .sl items.nl (items.l.map I) (zsl items.nl 1) none), (9, B true), (8, I ((items.l.length : Nat) : Int)), (7, .sl items.nl (items.l.map I) (zsl items.nl 1) none), (6, I ((i2 : Nat) : Int)), (1, .sl items.nl (items.l.map I) (zsl items.nl 1) none), (2, .lref 0 0 3 0), (5, I ((i2 : Nat) : Int))], [(0, ⟨[.agg [.sl e.items.nl (e.items.l.map S_Item.D) (zsl e.items.nl 4) none, I e.whole.lo, I e.whole.hi]], 3, false⟩)], 1, 0⟩

def sd53 (e : S_Estate) (items : GS Int) (i2 : Nat) (x2 : Int) : St := ⟨43, [(4, B false), (42, B true), (41, B true), (40, B true), (39, I x2), (38, .ptr (I x2)), (37, I ((i2 : Nat) : Int)), (36, .sl items.nl (items.l.map I) (zsl items.nl 1) none), (35, I (GS.at items (w64 (((i2 : Nat) : Int) - 1)))), (34, .ptr (I (GS.at items (w64 (((i2 : Nat) : Int) - 1))))), (33, I (w64 (((i2 : Nat) : Int) - 1))), (32, I ((i2 : Nat) : Int)), (31, .sl items.nl (items.l.map I) (zsl items.nl 1) none), (30, B true), (29, B true), (28, I ((i2 : Nat) : Int)), (27, B false), (26, B false), (25, B false), (24, I ((e.items.l.length : Nat) : Int)), (23, .sl e.items.nl (e.items.l.map S_Item.D) (zsl e.items.nl 4) none), (22, .lref 0 0 3 0), (21, I x2), (20, .ptr (I x2)), (19, I ((i2 : Nat) : Int)), (18, .sl items.nl (items.l.map I) (zsl items.nl 1) none), (17, B false), (16, B false), (15, I x2), (14, .ptr (I x2)), (13, I ((i2 : Nat) : Int)), (12, .sl items.nl (items.l.map I) (zsl items.nl 1) none), (9, B true), (8, I ((items.l.length : Nat) : Int)), (7, .sl items.nl (items.l.map I) (zsl items.nl 1) none), (6, I ((i2 : Nat) : Int)), (1, .sl items.nl (items.l.map I) (zsl items.nl 1) none), (2, .lref 0 0 3 0), (5, I ((i2 : Nat) : Int))], [(0, ⟨[.agg [.sl e.items.nl (e.items.l.map S_Item.D) (zsl e.items.nl 4) none, I e.whole.lo, I e.whole.hi]], 3, false⟩)], 1, 0⟩

theorem T_r_Right (e : S_Estate) (items : GS Int) (hL : items.l.length ≤ 9223372036854775807) : (lim cfg).pure 107 [S_Estate.D e, GS.D I 1 items] = some (B (r_Right e items)) := by
  unfold r_Right
  cases h9 : r_Right_2 e items items.l 0 with
  | x0 =>
    try dsimp only
    exact za [.loop (.exit 0) (sd50 e items)] (And.intro (po_lr (q := lr_r_Right_2 e items) (lp_r_Right_2 e items items.l 0 (List.drop_zero) (Nat.zero_le _) (by first | assumption | omega | (with_reducible exact zc) | (simp only [z8] at * <;> omega) | (simp only [z7, z6, z5, GS.some_l, List.length_set, List.length_append, List.length_cons, List.length_nil] at * <;> first | with_reducible assumption | omega) | (simp only [z7, z6, z5, GS.some_l, List.length_set, List.length_append, List.length_cons, List.length_nil, z8] at * <;> first | with_reducible assumption | omega) | (simp at * <;> omega))) h9) trivial) (by kernel_rfl)
  | x1 i2 x2 =>
    try dsimp only
    exact za [.loop .ret (sd51 e items i2 x2)] (And.intro (po_lr (q := lr_r_Right_2 e items) (lp_r_Right_2 e items items.l 0 (List.drop_zero) (Nat.zero_le _) (by first | assumption | omega | (with_reducible exact zc) | (simp only [z8] at * <;> omega) | (simp only [z7, z6, z5, GS.some_l, List.length_set, List.length_append, List.length_cons, List.length_nil] at * <;> first | with_reducible assumption | omega) | (simp only [z7, z6, z5, GS.some_l, List.length_set, List.length_append, List.length_cons, List.length_nil, z8] at * <;> first | with_reducible assumption | omega) | (simp at * <;> omega))) h9) trivial) (by kernel_rfl)
  | x2 i2 x2 =>
    try dsimp only
    exact za [.loop .ret (sd52 e items i2 x2)] (And.intro (po_lr (q := lr_r_Right_2 e items) (lp_r_Right_2 e items items.l 0 (List.drop_zero) (Nat.zero_le _) (by first | assumption | omega | (with_reducible exact zc) | (simp only [z8] at * <;> omega) | (simp only [z7, z6, z5, GS.some_l, List.length_set, List.length_append, List.length_cons, List.length_nil] at * <;> first | with_reducible assumption | omega) | (simp only [z7, z6, z5, GS.some_l, List.length_set, List.length_append, List.length_cons, List.length_nil, z8] at * <;> first | with_reducible assumption | omega) | (simp at * <;> omega))) h9) trivial) (by kernel_rfl)
  | x3 i2 x2 =>
    try dsimp only
    exact za [.loop .ret (sd53 e items i2 x2)] (And.intro (po_lr (q := lr_r_Right_2 e items) (lp_r_Right_2 e items items.l 0 (List.drop_zero) (Nat.zero_le _) (by first | assumption | omega | (with_reducible exact zc) | (simp only [z8] at * <;> omega) | (simp only [z7, z6, z5, GS.some_l, List.length_set, List.length_append, List.length_cons, List.length_nil] at * <;> first | with_reducible assumption | omega) | (simp only [z7, z6, z5, GS.some_l, List.length_set, List.length_append, List.length_cons, List.length_nil, z8] at * <;> first | with_reducible assumption | omega) | (simp at * <;> omega))) h9) trivial) (by kernel_rfl)

theorem rright5 {e : S_Estate} {items : GS Int} (hL : items.l.length ≤ 9223372036854775807) : ∀ (l : List Int) (i : Nat), items.l.drop i = l → (r_Right_2 e items l i = .x0 ↔ inc (if i = 0 then -1 else items.at ((i : Int) - 1)) (e.items.l.length : Int) l)
  | [], i, _ => by simp [r_Right_2, inc]
  | x :: l, i, hd => by
    have hlt := zr hd
    have hx : items.at (i : Int) = x := at_of hd
    have ih := rright5 (e := e) (items := items) hL l (i + 1) (zJ hd)
    rw [if_neg (by omega), show ((i + 1 : Nat) : Int) - 1 = (i : Int) by omega, hx] at ih
    unfold r_Right_2
    simp only [inc]
    cases h1 : decide (x < 0) with
    | true => have := of_decide_eq_true h1; simp only [cond_true]; exact ⟨fun h => (by cases h), fun h => by omega⟩
    | false =>
      have := of_decide_eq_false h1
      cases h2 : decide (x ≥ ((e.items.l.length : Nat) : Int)) with
      | true => have := of_decide_eq_true h2; simp only [cond_true, cond_false]; exact ⟨fun h => (by cases h), fun h => by omega⟩
      | false =>
        have := of_decide_eq_false h2
        simp only [cond_false]
        by_cases h0 : i = 0
        · subst h0
          have e0 : decide (((0 : Nat) : Int) > 0) = false := rfl
          rw [e0, if_pos rfl]
          simp only [cond_false, ih]
          exact ⟨fun h => ⟨by omega, by omega, by omega, h⟩, fun h => h.2.2.2⟩
        · rw [if_neg h0, decide_eq_true (by omega : ((i : Nat) : Int) > 0)]
          simp only [cond_true]
          rw [w64_eq (by omega) (by omega)]
          cases h2 : decide (items.at (((i : Nat) : Int) - 1) ≥ x) with
          | true => have := of_decide_eq_true h2; simp only [cond_true]; exact ⟨fun h => (by cases h), fun h => by omega⟩
          | false =>
            have := of_decide_eq_false h2
            simp only [cond_false, ih]
            exact ⟨fun h => ⟨by omega, by omega, by omega, h⟩, fun h => h.2.2.2⟩
theorem rright_iff {e : S_Estate} {items : GS Int} (hL : items.l.length ≤ 9223372036854775807) : r_Right e items = true ↔ inc (-1) (e.items.l.length : Int) items.l := by
  have k := rright5 (e := e) hL items.l 0 List.drop_zero
  rw [if_pos rfl] at k
  rw [← k]
  unfold r_Right
  cases r_Right_2 e items items.l 0 <;> simp
end Go.VS

/-
  Orders: gains; the width that is left; what is needed. (A text of this claim's own; nothing of it is trusted.)
-/
namespace Go.VS
set_option maxHeartbeats 0
theorem right_of {e : S_Estate} {items : GS Int} (hL : items.l.length ≤ 9223372036854775807) (h : V e) (hi : inc (-1) (e.items.l.length : Int) items.l) : zB e items = 0 := (right_iff hL).2 ⟨check_iff.2 h, hi⟩
theorem inc_short {e : S_Estate} {l : List Int} (h : V e) (hi : inc (-1) (e.items.l.length : Int) l) : l.length ≤ 12 := by
  have := h.n2
  by_cases hn : l = []
  · rw [hn]; simp
  · have := inc_len hi (by omega) hn
    omega
/-! ### gains -/
def gn (x : S_Item) : Int := max 0 (x.now.hi - x.now.lo - 2 * x.error)
theorem gain_eq {x : S_Item} (h : OkItem x) : zj x = gn x := by
  obtain ⟨a, b, c, d, e, f, g⟩ := h
  unfold zj gn
  rw [imax_eq, w64_eq (n := x.now.hi - x.now.lo) (by omega) (by omega), w64_eq (n := 2 * x.error) (by omega) (by omega), w64_eq (by omega) (by omega)]
theorem gn_bd {x : S_Item} (h : OkItem x) : 0 ≤ gn x ∧ gn x ≤ x.now.hi - x.now.lo := by
  obtain ⟨a, b, c, d, e, f, g⟩ := h
  unfold gn
  omega
/-- What items gain. -/
def gs (e : S_Estate) (l : List Int) : List Int := l.map (fun i => gn (e.items.at i))
theorem gains_eq {e : S_Estate} (h : V e) {items : GS Int} (hi : ∀ i ∈ items.l, 0 ≤ i ∧ i < (e.items.l.length : Int)) : (zf e items).l = gs e items.l := by
  rw [(gains_l e items).1]
  refine List.map_congr_left fun i hm => ?_
  exact gain_eq (h.it _ (at_mem (hi i hm).1 (hi i hm).2))
theorem tot_app (a b : List Int) : tot (a ++ b) = tot a + tot b := by
  induction a with
  | nil => simp [tot]
  | cons x a ih => simp only [List.cons_append, tot, ih]; omega
theorem total3_eq : ∀ (l : List Int) (n : Int), (∀ x ∈ l, 0 ≤ x ∧ x ≤ 1073741824) → 0 ≤ n → n + 1073741824 * (l.length : Int) ≤ 4611686018427387904 → orders_total_3 l n = .x0 (n + tot l)
  | [], n, _, _, _ => by simp [orders_total_3, tot]
  | x :: l, n, h, h0, h1 => by
    have hx := h x List.mem_cons_self
    simp only [List.length_cons] at h1
    unfold orders_total_3
    rw [w64_eq (by omega) (by omega), total3_eq l _ (fun y hy => h y (List.mem_cons_of_mem _ hy)) (by omega) (by omega)]
    simp only [tot]
    congr 1
    omega
theorem total_eq {s : GS Int} (h : ∀ x ∈ s.l, 0 ≤ x ∧ x ≤ 1073741824) (hn : s.l.length ≤ 1000) : zk s = tot s.l := by
  unfold zk
  rw [total3_eq s.l 0 h (by omega) (by omega)]
  simp
theorem gs_bd {e : S_Estate} (h : V e) {l : List Int} (hi : ∀ i ∈ l, 0 ≤ i ∧ i < (e.items.l.length : Int)) : ∀ x ∈ gs e l, 0 ≤ x ∧ x ≤ 1073741824 := by
  intro x hx
  obtain ⟨i, hm, rfl⟩ := List.mem_map.1 hx
  have hk := h.it _ (at_mem (hi i hm).1 (hi i hm).2)
  have := gn_bd hk
  have := hk.2.2.1; have := hk.1
  omega
def Gl (e : S_Estate) : List Int := e.items.l.map gn
theorem tot_nonneg : ∀ {l : List Int}, (∀ x ∈ l, 0 ≤ x) → 0 ≤ tot l
  | [], _ => Int.le_refl _
  | x :: l, h => by
    have := h x List.mem_cons_self
    have := tot_nonneg (l := l) (fun y hy => h y (List.mem_cons_of_mem _ hy))
    simp only [tot]; omega
theorem tot_drop {l : List Int} (h : ∀ x ∈ l, 0 ≤ x) {i j : Nat} (hij : i ≤ j) : tot (l.drop j) ≤ tot (l.drop i) := by
  have e : l.drop j = (l.drop i).drop (j - i) := by rw [List.drop_drop]; congr 1; omega
  rw [e]
  have := tot_app ((l.drop i).take (j - i)) ((l.drop i).drop (j - i))
  rw [List.take_append_drop] at this
  have : 0 ≤ tot ((l.drop i).take (j - i)) := tot_nonneg fun x hx => h x (List.mem_of_mem_drop (List.mem_of_mem_take hx))
  omega
theorem Gl_nonneg {e : S_Estate} (h : V e) : ∀ x ∈ Gl e, 0 ≤ x := by
  intro x hx
  obtain ⟨y, hy, rfl⟩ := List.mem_map.1 hx
  exact (gn_bd (h.it y hy)).1
theorem gs_le {e : S_Estate} (h : V e) : ∀ {p : Int} {l : List Int}, -1 ≤ p → inc p (e.items.l.length : Int) l → tot (gs e l) ≤ tot ((Gl e).drop (p + 1).toNat)
  | p, [], hp, _ => tot_nonneg fun x hx => Gl_nonneg h x (List.mem_of_mem_drop hx)
  | p, x :: l, hp, hi => by
    obtain ⟨h1, h2, h3, h4⟩ := hi
    have ih := gs_le h (p := x) (by omega) h4
    have hlt : x.toNat < (Gl e).length := by unfold Gl; rw [List.length_map]; omega
    have hd : (Gl e).drop x.toNat = (Gl e)[x.toNat] :: (Gl e).drop (x.toNat + 1) := List.drop_eq_getElem_cons hlt
    have hg : (Gl e)[x.toNat] = gn (e.items.at x) := by
      have hlt' : x.toNat < e.items.l.length := by omega
      simp only [Gl, List.getElem_map, GS.at, List.getD_eq_getElem?_getD, List.getElem?_eq_getElem hlt']
      rfl
    have hm := tot_drop (Gl_nonneg h) (i := (p + 1).toNat) (j := x.toNat) (by omega)
    rw [hd, hg] at hm
    rw [show (x + 1).toNat = x.toNat + 1 by omega] at ih
    simp only [gs, List.map_cons, tot] at *
    omega
theorem Gl_tot {e : S_Estate} (h : V e) : tot (Gl e) ≤ sHi e.items.l - sLo e.items.l := by
  have key : ∀ l : List S_Item, (∀ x ∈ l, OkItem x) → tot (l.map gn) ≤ sHi l - sLo l := by
    intro l
    induction l with
    | nil => intro _; simp [tot, sHi, sLo]
    | cons x l ih =>
      intro hl
      have := ih fun y hy => hl y (List.mem_cons_of_mem _ hy)
      have := gn_bd (hl x List.mem_cons_self)
      simp only [List.map_cons, tot, sHi, sLo]
      omega
  exact key _ h.it
theorem gs_range {e : S_Estate} (h : V e) {l : List Int} (hi : inc (-1) (e.items.l.length : Int) l) : 0 ≤ tot (gs e l) ∧ tot (gs e l) ≤ sHi e.items.l - sLo e.items.l := by
  have h1 := gs_le h (by omega) hi
  have h2 := Gl_tot h
  have h3 := gs_bd h (inc_mem hi)
  simp at h1
  exact ⟨tot_nonneg fun x hx => (h3 x hx).1, by omega⟩
/-! ### the width that is left behind a gain -/
def wn (e : S_Estate) (g : Int) : S_window := ⟨⟨sLo e.items.l, sHi e.items.l - g⟩, g, e.whole⟩
theorem wn_ok {e : S_Estate} (h : V e) {g : Int} (h0 : 0 ≤ g) (h1 : g ≤ sHi e.items.l - sLo e.items.l) : Wk (wn e g) := by
  have hb := sums_bd h.sp
  have := h.n2
  have := h.lo; have := h.hi
  refine ⟨hb.1, ?_, ?_, h0, h.w0, h.w1, h.w2, h.lo, ?_⟩ <;> simp only [wn] <;> omega
theorem windowOf_eq {e : S_Estate} (h : V e) {g : Int} (h0 : 0 ≤ g) (h1 : g ≤ sHi e.items.l - sLo e.items.l) : zd e g = wn e g := by
  have hb := sums_bd h.sp
  have := h.n2
  unfold zd wn
  rw [all_eq h.sp h.n2]
  simp only []
  rw [w64_eq (by omega) (by omega)]
theorem gtot_eq {e : S_Estate} (h : V e) {items : GS Int} (hi : inc (-1) (e.items.l.length : Int) items.l) : zk (zf e items) = tot (gs e items.l) := by
  have := inc_short h hi
  rw [total_eq (by rw [gains_eq h (inc_mem hi)]; exact gs_bd h (inc_mem hi)) (by rw [z6]; omega), gains_eq h (inc_mem hi)]
/-! ### all items -/
/-! ### what is needed -/
/-! ### is it among them -/
end Go.VS

/-
  Orders: estates closed; areas at the ends of what can be. (A text of this claim's own; nothing of it is trusted.)
-/
namespace Go.VS
/-- One item at a number. -/
def put (l : List S_Item) (i : Nat) (y : Int) : List S_Item := l.set i ⟨⟨y, y⟩, (l.getD i default).cost, (l.getD i default).error⟩
end Go.VS

namespace Go.VS
open Go Go.Proofs
set_option maxHeartbeats 0
set_option linter.unusedSimpArgs false
set_option linter.unusedVariables false
end Go.VS

namespace Go.VS
open Go Go.Proofs
set_option maxHeartbeats 0
set_option linter.unusedSimpArgs false
set_option linter.unusedVariables false
theorem rright_all {e : S_Estate} {items : GS Int} (hL : items.l.length ≤ 9223372036854775807) (hn : 1 ≤ e.items.l.length ∧ e.items.l.length ≤ 12) (h : r_Right e items = true) : (∀ i ∈ items.l, 0 ≤ i ∧ i < ((e.items.l.length : Nat) : Int)) ∧ items.l.length ≤ 12 := by
  have h' := (rright_iff hL).1 h
  refine ⟨inc_mem h', ?_⟩
  by_cases hn' : items.l = []
  · rw [hn']; simp
  · have := inc_len h' (by omega) hn'
    omega
end Go.VS

namespace Go.VS
open Go Go.Proofs
set_option maxHeartbeats 0
set_option linter.unusedSimpArgs false
set_option linter.unusedVariables false
theorem shown_len {e : S_Estate} {items : GS Int} {s : Int} : (orders_shown e items s).l.length = items.l.length := by
  have key : ∀ (l : List Int) (n : Int) (v : List Int), ∃ m w, orders_shown_3a e s l n v = .x0 m w ∧ w.length = v.length + l.length := by
    intro l
    induction l with
    | nil => intro n v; exact ⟨n, v, rfl, by simp⟩
    | cons x l ih =>
      intro n v
      unfold orders_shown_3a
      obtain ⟨m, w, h1, h2⟩ := ih (w64 (n - (imin n (zj (GS.at e.items x))))) (v ++ [w64 ((w64 (((GS.at e.items x).now.lo) + ((GS.at e.items x).error))) + (imin n (zj (GS.at e.items x))))])
      exact ⟨m, w, h1, by rw [h2]; simp; omega⟩
  unfold orders_shown
  cases items.l with
  | nil => rfl
  | cons x l =>
    unfold orders_shown_3
    dsimp only
    obtain ⟨m, w, h1, h2⟩ := key l (w64 (s - (imin s (zj (GS.at e.items x))))) [w64 ((w64 (((GS.at e.items x).now.lo) + ((GS.at e.items x).error))) + (imin s (zj (GS.at e.items x))))]
    rw [h1]
    simp [GS.some, h2]
    omega
theorem zq {e : S_Estate} {items : GS Int} {low high : Int} : (ze e items low high).1.l.length ≤ items.l.length := by
  have h1 : (zG e items low high).1.l.length ≤ items.l.length := by
    unfold zG
    simp only [Bool.cond_decide]
    split
    · simp [GS.nil]
    · split
      · simp [GS.nil]
      · split
        · simp [GS.nil]
        · simp [shown_len]
  unfold ze
  cases (zF e items low high != 0) with
  | true => simp [GS.nil]
  | false => cases (zG e items low high).2 <;> exact h1
end Go.VS

/-
  Orders: what measurements leave. (A text of this claim's own; nothing of it is trusted.)
-/
namespace Go.VS
set_option maxHeartbeats 0
end Go.VS

/-
  Orders: what Attain shows, what measurements show of areas. (A text of this claim's own; nothing of it is trusted.)
-/
namespace Go.VS
set_option maxHeartbeats 0
/-! ### what measurements show of areas -/
end Go.VS

namespace Go.VS
open Go Go.Proofs
set_option maxHeartbeats 0
set_option linter.unusedSimpArgs false
set_option linter.unusedVariables false
def r_Total (e : S_Estate) : Int :=
  w64 (((r_All e).hi) - ((r_All e).lo))

theorem T_r_Total (e : S_Estate) (hL_e_items : e.items.l.length ≤ 9223372036854775807) : (lim cfg).pure 55 [S_Estate.D e] = some (I (r_Total e)) := by
  unfold r_Total
  exact za [.pure (.agg [I ((r_All e).lo), I ((r_All e).hi)])] (And.intro (T_r_All e (by first | assumption | omega | (with_reducible exact zc) | (with_reducible exact Nat.le_trans zq (by omega)) | (simp only [z8] at * <;> omega) | (simp only [z7, z6, z5, GS.some_l, List.length_set, List.length_append, List.length_cons, List.length_nil] at * <;> first | with_reducible assumption | omega) | (simp only [z7, z6, z5, GS.some_l, List.length_set, List.length_append, List.length_cons, List.length_nil, z8] at * <;> first | with_reducible assumption | omega) | (simp at * <;> omega))) trivial) (by kernel_rfl)

def r_Gain (x : S_Item) : Int :=
  imax (w64 ((w64 (x.now.hi - x.now.lo)) - (w64 (2 * x.error)))) 0

theorem T_r_Gain (x : S_Item) : (lim cfg).pure 80 [S_Item.D x] = some (I (r_Gain x)) := by
  unfold r_Gain
  exact za [] (trivial) (by kernel_rfl)

def r_first (e : S_Estate) (items : GS Int) : Int :=
  bif (r_Valid e) then
    bif (r_Right e items) then
      0
    else
      1
  else
    80

theorem T_r_first (e : S_Estate) (items : GS Int) (hL : items.l.length ≤ 9223372036854775807) : (lim cfg).pure 70 [S_Estate.D e, GS.D I 1 items] = some (I (r_first e items)) := by
  unfold r_first
  cases h1 : (r_Valid e) with
  | true =>
    have g1 := valid_len h1
    cases h2 : (r_Right e items) with
    | true =>
      obtain ⟨gb2, g2⟩ := rright_all (by assumption) (by assumption) h2
      exact za [.pure (B (r_Valid e)), .dec true, .pure (B (r_Right e items)), .dec true] (And.intro h2 (And.intro (T_r_Right e items (by first | assumption | omega | (with_reducible exact zc) | (with_reducible exact Nat.le_trans zq (by omega)) | (simp only [z8] at * <;> omega) | (simp only [z7, z6, z5, GS.some_l, List.length_set, List.length_append, List.length_cons, List.length_nil] at * <;> first | with_reducible assumption | omega) | (simp only [z7, z6, z5, GS.some_l, List.length_set, List.length_append, List.length_cons, List.length_nil, z8] at * <;> first | with_reducible assumption | omega) | (simp at * <;> omega))) (And.intro h1 (And.intro (T_r_Valid e) trivial)))) (by kernel_rfl)
    | false =>
      exact za [.pure (B (r_Valid e)), .dec true, .pure (B (r_Right e items)), .dec false] (And.intro h2 (And.intro (T_r_Right e items (by first | assumption | omega | (with_reducible exact zc) | (with_reducible exact Nat.le_trans zq (by omega)) | (simp only [z8] at * <;> omega) | (simp only [z7, z6, z5, GS.some_l, List.length_set, List.length_append, List.length_cons, List.length_nil] at * <;> first | with_reducible assumption | omega) | (simp only [z7, z6, z5, GS.some_l, List.length_set, List.length_append, List.length_cons, List.length_nil, z8] at * <;> first | with_reducible assumption | omega) | (simp at * <;> omega))) (And.intro h1 (And.intro (T_r_Valid e) trivial)))) (by kernel_rfl)
  | false =>
    exact za [.pure (B (r_Valid e)), .dec false] (And.intro h1 (And.intro (T_r_Valid e) trivial)) (by kernel_rfl)

theorem rfirst_iff {e : S_Estate} {items : GS Int} : r_first e items = 0 ↔ r_Valid e = true ∧ r_Right e items = true := by
  unfold r_first
  cases r_Valid e <;> cases r_Right e items <;> simp
theorem rfirst_ok {e : S_Estate} {items : GS Int} (hL : items.l.length ≤ 9223372036854775807) (h : r_first e items = 0) : (1 ≤ e.items.l.length ∧ e.items.l.length ≤ 12 ∧ items.l.length ≤ 12) ∧ ∀ i ∈ items.l, 0 ≤ i ∧ i < ((e.items.l.length : Nat) : Int) := by
  obtain ⟨h1, h2⟩ := rfirst_iff.1 h
  have hl := valid_len h1
  obtain ⟨h3, h4⟩ := rright_all hL hl h2
  exact ⟨⟨hl.1, hl.2, h4⟩, h3⟩

end Go.VS

namespace Go.VS
open Go Go.Proofs
set_option maxHeartbeats 0
set_option linter.unusedSimpArgs false
set_option linter.unusedVariables false
noncomputable def lp57_3 : Code := subC [1, 1, 0, 1, 0, 0] (bodyC Tryz.f57)

inductive LR_r_gains_3 where
  | x0 (v3_0 : Int)
instance : Inhabited LR_r_gains_3 := ⟨.x0 default⟩
def r_gains_3 (e : S_Estate) : List Int → Int → LR_r_gains_3
  | [], v3_0 => .x0 v3_0
  | x3 :: rest3, v3_0 =>
    r_gains_3 e rest3 (w64 (v3_0 + (r_Gain (GS.at e.items x3))))
def lr_r_gains_3 (e : S_Estate) (items : GS Int) : LR_r_gains_3 → Exit × St
  | .x0 v3_0 => ((.exit 0), ⟨25, [(10, B false), (9, I ((items.l.length : Nat) : Int)), (8, .sl items.nl (items.l.map I) (zsl items.nl 1) none), (7, I ((items.l.length : Nat) : Int)), (1, .sl items.nl (items.l.map I) (zsl items.nl 1) none), (2, .lref 0 0 3 0), (5, I v3_0), (6, I ((items.l.length : Nat) : Int))], [(0, ⟨[.agg [.sl e.items.nl (e.items.l.map S_Item.D) (zsl e.items.nl 4) none, I e.whole.lo, I e.whole.hi]], 3, false⟩)], 1, 0⟩)
theorem lp_r_gains_3 (e : S_Estate) (items : GS Int) : ∀ (rest3 : List Int) (i3 : Nat) (v3_0 : Int) (hd3 : items.l.drop i3 = rest3) (hi3 : i3 ≤ items.l.length) (hall : ∀ i ∈ items.l, 0 ≤ i ∧ i < ((e.items.l.length : Nat) : Int)) (hL3 : items.l.length ≤ 9223372036854775807), (lim cfg).loop 57 lp57_3 ⟨25, [(1, .sl items.nl (items.l.map I) (zsl items.nl 1) none), (2, .lref 0 0 3 0), (5, I v3_0), (6, I ((i3 : Nat) : Int))], [(0, ⟨[.agg [.sl e.items.nl (e.items.l.map S_Item.D) (zsl e.items.nl 4) none, I e.whole.lo, I e.whole.hi]], 3, false⟩)], 1, 0⟩ = some (lr_r_gains_3 e items (r_gains_3 e rest3 v3_0)) := by
  intro rest3
  induction rest3 with
  | nil =>
    intro i3 v3_0 hd3 hi3 hall hL3
    unfold r_gains_3
    obtain rfl : i3 = items.l.length := nil_eq hd3 hi3
    exact zO [.rw 9 (I ((items.l.length : Nat) : Int)), .dec false] (And.intro (lt_no hd3) (And.intro (zh I items) trivial)) (by kernel_rfl)
  | cons x3 rest3 ih =>
    intro i3 v3_0 hd3 hi3 hall hL3
    have hlt3 := zr hd3
    have hbx := hall x3 (mem_drop hd3)
    unfold r_gains_3
    exact po_turn [.rw 9 (I ((items.l.length : Nat) : Int)), .dec true, .el (I x3), .el (.agg [I ((GS.at e.items x3).now.lo), I ((GS.at e.items x3).now.hi), I ((GS.at e.items x3).cost), I ((GS.at e.items x3).error)]), .pure (I (r_Gain (GS.at e.items x3))), .rw 12 (I ((i3 + 1 : Nat) : Int))] (And.intro (yb (i := i3) (by have := zr hd3; omega)) (And.intro (T_r_Gain (GS.at e.items x3)) (And.intro (el_in (s := e.items) (f := S_Item.D) (k := 4) (i := x3) (by first | assumption | omega) (by first | assumption | omega)) (And.intro (el_at (s := items) (f := I) (k := 1) hd3) (And.intro (lt_at hd3) (And.intro (zh I items) trivial)))))) (ih (i3 + 1) (w64 (v3_0 + (r_Gain (GS.at e.items x3)))) (zJ hd3) (zr hd3) (by first | assumption | omega) (by first | assumption | omega)) (by kernel_rfl)

def r_gains (e : S_Estate) (items : GS Int) : Int :=
  match r_gains_3 e items.l 0 with
  | .x0 v3_0 =>
    v3_0

def sd64 (e : S_Estate) (items : GS Int) (v3_0 : Int) : St := ⟨25, [(10, B false), (9, I ((items.l.length : Nat) : Int)), (8, .sl items.nl (items.l.map I) (zsl items.nl 1) none), (7, I ((items.l.length : Nat) : Int)), (1, .sl items.nl (items.l.map I) (zsl items.nl 1) none), (2, .lref 0 0 3 0), (5, I v3_0), (6, I ((items.l.length : Nat) : Int))], [(0, ⟨[.agg [.sl e.items.nl (e.items.l.map S_Item.D) (zsl e.items.nl 4) none, I e.whole.lo, I e.whole.hi]], 3, false⟩)], 1, 0⟩

theorem T_r_gains (e : S_Estate) (items : GS Int) (hall : ∀ i ∈ items.l, 0 ≤ i ∧ i < ((e.items.l.length : Nat) : Int)) (hL_items : items.l.length ≤ 9223372036854775807) : (lim cfg).pure 57 [S_Estate.D e, GS.D I 1 items] = some (I (r_gains e items)) := by
  unfold r_gains
  cases h1 : r_gains_3 e items.l 0 with
  | x0 v3_0 =>
    try dsimp only
    exact za [.loop (.exit 0) (sd64 e items v3_0)] (And.intro (po_lr (q := lr_r_gains_3 e items) (lp_r_gains_3 e items items.l 0 0 (List.drop_zero) (Nat.zero_le _) (by first | assumption | omega) (by first | assumption | omega)) h1) trivial) (by kernel_rfl)

noncomputable def lp79_3 : Code := subC [1, 1, 0, 1, 0, 0] (bodyC Tryz.f79)

inductive LR_r_costs_3 where
  | x0 (v3_0 : Int)
instance : Inhabited LR_r_costs_3 := ⟨.x0 default⟩
def r_costs_3 (e : S_Estate) : List Int → Int → LR_r_costs_3
  | [], v3_0 => .x0 v3_0
  | x3 :: rest3, v3_0 =>
    r_costs_3 e rest3 (w64 (v3_0 + ((GS.at e.items x3).cost)))
def lr_r_costs_3 (e : S_Estate) (items : GS Int) : LR_r_costs_3 → Exit × St
  | .x0 v3_0 => ((.exit 0), ⟨25, [(10, B false), (9, I ((items.l.length : Nat) : Int)), (8, .sl items.nl (items.l.map I) (zsl items.nl 1) none), (7, I ((items.l.length : Nat) : Int)), (1, .sl items.nl (items.l.map I) (zsl items.nl 1) none), (2, .lref 0 0 3 0), (5, I v3_0), (6, I ((items.l.length : Nat) : Int))], [(0, ⟨[.agg [.sl e.items.nl (e.items.l.map S_Item.D) (zsl e.items.nl 4) none, I e.whole.lo, I e.whole.hi]], 3, false⟩)], 1, 0⟩)
theorem lp_r_costs_3 (e : S_Estate) (items : GS Int) : ∀ (rest3 : List Int) (i3 : Nat) (v3_0 : Int) (hd3 : items.l.drop i3 = rest3) (hi3 : i3 ≤ items.l.length) (hall : ∀ i ∈ items.l, 0 ≤ i ∧ i < ((e.items.l.length : Nat) : Int)) (hL3 : items.l.length ≤ 9223372036854775807), (lim cfg).loop 79 lp79_3 ⟨25, [(1, .sl items.nl (items.l.map I) (zsl items.nl 1) none), (2, .lref 0 0 3 0), (5, I v3_0), (6, I ((i3 : Nat) : Int))], [(0, ⟨[.agg [.sl e.items.nl (e.items.l.map S_Item.D) (zsl e.items.nl 4) none, I e.whole.lo, I e.whole.hi]], 3, false⟩)], 1, 0⟩ = some (lr_r_costs_3 e items (r_costs_3 e rest3 v3_0)) := by
  intro rest3
  induction rest3 with
  | nil =>
    intro i3 v3_0 hd3 hi3 hall hL3
    unfold r_costs_3
    obtain rfl : i3 = items.l.length := nil_eq hd3 hi3
    exact zO [.rw 9 (I ((items.l.length : Nat) : Int)), .dec false] (And.intro (lt_no hd3) (And.intro (zh I items) trivial)) (by kernel_rfl)
  | cons x3 rest3 ih =>
    intro i3 v3_0 hd3 hi3 hall hL3
    have hlt3 := zr hd3
    have hbx := hall x3 (mem_drop hd3)
    unfold r_costs_3
    exact po_turn [.rw 9 (I ((items.l.length : Nat) : Int)), .dec true, .el (I x3), .el (.agg [I ((GS.at e.items x3).now.lo), I ((GS.at e.items x3).now.hi), I ((GS.at e.items x3).cost), I ((GS.at e.items x3).error)]), .rw 12 (I ((i3 + 1 : Nat) : Int))] (And.intro (yb (i := i3) (by have := zr hd3; omega)) (And.intro (el_in (s := e.items) (f := S_Item.D) (k := 4) (i := x3) (by first | assumption | omega) (by first | assumption | omega)) (And.intro (el_at (s := items) (f := I) (k := 1) hd3) (And.intro (lt_at hd3) (And.intro (zh I items) trivial))))) (ih (i3 + 1) (w64 (v3_0 + ((GS.at e.items x3).cost))) (zJ hd3) (zr hd3) (by first | assumption | omega) (by first | assumption | omega)) (by kernel_rfl)

def r_costs (e : S_Estate) (items : GS Int) : Int :=
  match r_costs_3 e items.l 0 with
  | .x0 v3_0 =>
    v3_0

theorem T_r_costs (e : S_Estate) (items : GS Int) (hall : ∀ i ∈ items.l, 0 ≤ i ∧ i < ((e.items.l.length : Nat) : Int)) (hL_items : items.l.length ≤ 9223372036854775807) : (lim cfg).pure 79 [S_Estate.D e, GS.D I 1 items] = some (I (r_costs e items)) := by
  unfold r_costs
  cases h1 : r_costs_3 e items.l 0 with
  | x0 v3_0 =>
    try dsimp only
    exact za [.loop (.exit 0) (sd64 e items v3_0)] (And.intro (po_lr (q := lr_r_costs_3 e items) (lp_r_costs_3 e items items.l 0 0 (List.drop_zero) (Nat.zero_le _) (by first | assumption | omega) (by first | assumption | omega)) h1) trivial) (by kernel_rfl)

noncomputable def lp75_3 : Code := subC [1, 1, 0, 1, 0, 0] (bodyC Tryz.f75)

def sd65 (e : S_Estate) (items : GS Int) (i3 : Nat) (x3 : Int) (va3_0 : Int) (va3_1 : List Int) : St := ⟨44, [(8, I ((i3 + 1 : Nat) : Int)), (16, I ((i3 + 1 : Nat) : Int)), (15, I ((i3 : Nat) : Int)), (7, .lsl 4 0 ((va3_1 ++ [w64 ((w64 (((GS.at e.items x3).now.lo) + ((GS.at e.items x3).error))) + (imin va3_0 (r_Gain (GS.at e.items x3))))]).length) 1 none), (42, .lsl 4 0 ((va3_1 ++ [w64 ((w64 (((GS.at e.items x3).now.lo) + ((GS.at e.items x3).error))) + (imin va3_0 (r_Gain (GS.at e.items x3))))]).length) 1 none), (41, .lsl 3 0 1 1 (some 1)), (40, I (w64 ((w64 (((GS.at e.items x3).now.lo) + ((GS.at e.items x3).error))) + (imin va3_0 (r_Gain (GS.at e.items x3)))))), (39, I (imin va3_0 (r_Gain (GS.at e.items x3)))), (38, I (w64 (((GS.at e.items x3).now.lo) + ((GS.at e.items x3).error)))), (37, I ((GS.at e.items x3).error)), (36, .lref 2 0 4 3), (35, I ((GS.at e.items x3).now.lo)), (34, .lref 2 0 4 0), (33, .lref 2 0 4 0), (32, .lsl 1 0 va3_1.length 1 none), (2, I (w64 (va3_0 - (imin va3_0 (r_Gain (GS.at e.items x3)))))), (31, I (w64 (va3_0 - (imin va3_0 (r_Gain (GS.at e.items x3)))))), (30, I (imin va3_0 (r_Gain (GS.at e.items x3)))), (29, I va3_0), (10, I (imin va3_0 (r_Gain (GS.at e.items x3)))), (28, I (imin va3_0 (r_Gain (GS.at e.items x3)))), (27, I (r_Gain (GS.at e.items x3))), (26, .agg [I ((GS.at e.items x3).now.lo), I ((GS.at e.items x3).now.hi), I ((GS.at e.items x3).cost), I ((GS.at e.items x3).error)]), (25, I va3_0), (9, .lref 2 0 4 0), (24, .agg [I ((GS.at e.items x3).now.lo), I ((GS.at e.items x3).now.hi), I ((GS.at e.items x3).cost), I ((GS.at e.items x3).error)]), (23, .ptr (.agg [I ((GS.at e.items x3).now.lo), I ((GS.at e.items x3).now.hi), I ((GS.at e.items x3).cost), I ((GS.at e.items x3).error)])), (22, I x3), (21, .ptr (I x3)), (20, I ((i3 : Nat) : Int)), (19, .sl items.nl (items.l.map I) (zsl items.nl 1) none), (18, .sl e.items.nl (e.items.l.map S_Item.D) (zsl e.items.nl 4) none), (17, .lref 0 0 3 0), (14, B true), (13, I ((items.l.length : Nat) : Int)), (12, .sl items.nl (items.l.map I) (zsl items.nl 1) none), (11, I ((i3 : Nat) : Int)), (1, .sl items.nl (items.l.map I) (zsl items.nl 1) none), (2, I va3_0), (3, .lref 0 0 3 0), (7, .lsl 1 0 va3_1.length 1 none), (8, I ((i3 : Nat) : Int))], [(0, ⟨[.agg [.sl e.items.nl (e.items.l.map S_Item.D) (zsl e.items.nl 4) none, I e.whole.lo, I e.whole.hi]], 3, false⟩), (2, ⟨[.agg [I ((GS.at e.items x3).now.lo), I ((GS.at e.items x3).now.hi), I ((GS.at e.items x3).cost), I ((GS.at e.items x3).error)]], 4, false⟩), (3, ⟨[I (w64 ((w64 (((GS.at e.items x3).now.lo) + ((GS.at e.items x3).error))) + (imin va3_0 (r_Gain (GS.at e.items x3)))))], 1, false⟩), (4, ⟨(va3_1 ++ [w64 ((w64 (((GS.at e.items x3).now.lo) + ((GS.at e.items x3).error))) + (imin va3_0 (r_Gain (GS.at e.items x3))))]).map I, 1, false⟩)], 5, 0⟩

inductive LR_r_spread_3 where
  | x0 (va3_0 : Int) (va3_1 : List Int)
  | x1
instance : Inhabited LR_r_spread_3 := ⟨.x0 default default⟩
def r_spread_3a (e : S_Estate) (rest : Int) : List Int → Int → (List Int) → LR_r_spread_3
  | [], va3_0, va3_1 => .x0 va3_0 va3_1
  | x3 :: rest3, va3_0, va3_1 =>
    r_spread_3a e rest rest3 (w64 (va3_0 - (imin va3_0 (r_Gain (GS.at e.items x3))))) (va3_1 ++ [w64 ((w64 (((GS.at e.items x3).now.lo) + ((GS.at e.items x3).error))) + (imin va3_0 (r_Gain (GS.at e.items x3))))])
def r_spread_3 (e : S_Estate) (rest : Int) : List Int → LR_r_spread_3
  | [] => .x1
  | x3 :: rest3 =>
    r_spread_3a e rest rest3 (w64 (rest - (imin rest (r_Gain (GS.at e.items x3))))) [w64 ((w64 (((GS.at e.items x3).now.lo) + ((GS.at e.items x3).error))) + (imin rest (r_Gain (GS.at e.items x3))))]
def lr_r_spread_3 (e : S_Estate) (items : GS Int) (rest : Int) : LR_r_spread_3 → Exit × St
  | .x0 va3_0 va3_1 => ((.exit 0), ⟨44, [(14, B false), (13, I ((items.l.length : Nat) : Int)), (12, .sl items.nl (items.l.map I) (zsl items.nl 1) none), (11, I ((items.l.length : Nat) : Int)), (1, .sl items.nl (items.l.map I) (zsl items.nl 1) none), (2, I va3_0), (3, .lref 0 0 3 0), (7, .lsl 1 0 va3_1.length 1 none), (8, I ((items.l.length : Nat) : Int))], [(0, ⟨[.agg [.sl e.items.nl (e.items.l.map S_Item.D) (zsl e.items.nl 4) none, I e.whole.lo, I e.whole.hi]], 3, false⟩), (1, ⟨va3_1.map I, 1, false⟩)], 2, 0⟩)
  | .x1 => ((.exit 0), ⟨44, [(14, B false), (13, I ((items.l.length : Nat) : Int)), (12, .sl items.nl (items.l.map I) (zsl items.nl 1) none), (11, I ((items.l.length : Nat) : Int)), (1, .sl items.nl (items.l.map I) (zsl items.nl 1) none), (2, I rest), (3, .lref 0 0 3 0), (7, .sl true [] 0 none), (8, I ((items.l.length : Nat) : Int))], [(0, ⟨[.agg [.sl e.items.nl (e.items.l.map S_Item.D) (zsl e.items.nl 4) none, I e.whole.lo, I e.whole.hi]], 3, false⟩)], 1, 0⟩)
def iv_r_spread_3 (e : S_Estate) (items : GS Int) (rest : Int) : LR_r_spread_3 → Prop
  | .x0 va3_0 va3_1 => (va3_1.length ≤ items.l.length)
  | .x1 => True
theorem lp_r_spread_3a (e : S_Estate) (items : GS Int) (rest : Int) : ∀ (rest3 : List Int) (i3 : Nat) (va3_0 : Int) (va3_1 : List Int) (hd3 : items.l.drop i3 = rest3) (hi3 : i3 ≤ items.l.length) (hall : ∀ i ∈ items.l, 0 ≤ i ∧ i < ((e.items.l.length : Nat) : Int)) (hg3_va3_1 : va3_1.length ≤ i3) (hL3 : items.l.length ≤ 1099511627776), (lim cfg).loop 75 lp75_3 ⟨44, [(1, .sl items.nl (items.l.map I) (zsl items.nl 1) none), (2, I va3_0), (3, .lref 0 0 3 0), (7, .lsl 1 0 va3_1.length 1 none), (8, I ((i3 : Nat) : Int))], [(0, ⟨[.agg [.sl e.items.nl (e.items.l.map S_Item.D) (zsl e.items.nl 4) none, I e.whole.lo, I e.whole.hi]], 3, false⟩), (1, ⟨va3_1.map I, 1, false⟩)], 2, 0⟩ = some (lr_r_spread_3 e items rest (r_spread_3a e rest rest3 va3_0 va3_1)) := by
  intro rest3
  induction rest3 with
  | nil =>
    intro i3 va3_0 va3_1 hd3 hi3 hall hg3_va3_1 hL3
    unfold r_spread_3a
    obtain rfl : i3 = items.l.length := nil_eq hd3 hi3
    exact zO [.rw 13 (I ((items.l.length : Nat) : Int)), .dec false] (And.intro (lt_no hd3) (And.intro (zh I items) trivial)) (by kernel_rfl)
  | cons x3 rest3 ih =>
    intro i3 va3_0 va3_1 hd3 hi3 hall hg3_va3_1 hL3
    have hlt3 := zr hd3
    have hbx := hall x3 (mem_drop hd3)
    unfold r_spread_3a
    exact po_turn' (ks := [1, 2, 3, 7, 8]) (st' := (sd65 e items i3 x3 va3_0 va3_1)) [.rw 13 (I ((items.l.length : Nat) : Int)), .dec true, .el (I x3), .el (.agg [I ((GS.at e.items x3).now.lo), I ((GS.at e.items x3).now.hi), I ((GS.at e.items x3).cost), I ((GS.at e.items x3).error)]), .pure (I (r_Gain (GS.at e.items x3))), .op (some 42) ⟨.lsl 4 0 ((va3_1 ++ [w64 ((w64 (((GS.at e.items x3).now.lo) + ((GS.at e.items x3).error))) + (imin va3_0 (r_Gain (GS.at e.items x3))))]).length) 1 none, [(1, none), (4, some ⟨(va3_1 ++ [w64 ((w64 (((GS.at e.items x3).now.lo) + ((GS.at e.items x3).error))) + (imin va3_0 (r_Gain (GS.at e.items x3))))]).map I, 1, false⟩)], [1, 3], 5⟩, .rw 16 (I ((i3 + 1 : Nat) : Int))] (And.intro (yb (i := i3) (by have := zr hd3; omega)) (And.intro (app_row (f := I) (te := ty3) (gO := zD [(0, ⟨[.agg [.sl e.items.nl (e.items.l.map S_Item.D) (zsl e.items.nl 4) none, I e.whole.lo, I e.whole.hi]], 3, false⟩), (1, ⟨va3_1.map I, 1, false⟩), (2, ⟨[.agg [I ((GS.at e.items x3).now.lo), I ((GS.at e.items x3).now.hi), I ((GS.at e.items x3).cost), I ((GS.at e.items x3).error)]], 4, false⟩), (3, ⟨[I (w64 ((w64 (((GS.at e.items x3).now.lo) + ((GS.at e.items x3).error))) + (imin va3_0 (r_Gain (GS.at e.items x3)))))], 1, false⟩)]) (nxt := 4) (o := 1) (o2 := 3) (fz := false) zU va3_1 (w64 ((w64 (((GS.at e.items x3).now.lo) + ((GS.at e.items x3).error))) + (imin va3_0 (r_Gain (GS.at e.items x3))))) (by kernel_rfl) (by kernel_rfl) rfl (by kernel_rfl) (by decide) ⟨by simp only [ty3, big] <;> (first | assumption | omega | (with_reducible exact zc) | (with_reducible exact Nat.le_trans zq (by omega)) | (simp only [z8] at * <;> omega) | (simp only [z7, z6, z5, GS.some_l, List.length_set, List.length_append, List.length_cons, List.length_nil] at * <;> first | with_reducible assumption | omega) | (simp only [z7, z6, z5, GS.some_l, List.length_set, List.length_append, List.length_cons, List.length_nil, z8] at * <;> first | with_reducible assumption | omega) | (simp at * <;> omega)), by simp only [big] <;> (first | assumption | omega | (with_reducible exact zc) | (with_reducible exact Nat.le_trans zq (by omega)) | (simp only [z8] at * <;> omega) | (simp only [z7, z6, z5, GS.some_l, List.length_set, List.length_append, List.length_cons, List.length_nil] at * <;> first | with_reducible assumption | omega) | (simp only [z7, z6, z5, GS.some_l, List.length_set, List.length_append, List.length_cons, List.length_nil, z8] at * <;> first | with_reducible assumption | omega) | (simp at * <;> omega))⟩) (And.intro (T_r_Gain (GS.at e.items x3)) (And.intro (el_in (s := e.items) (f := S_Item.D) (k := 4) (i := x3) (by first | assumption | omega) (by first | assumption | omega)) (And.intro (el_at (s := items) (f := I) (k := 1) hd3) (And.intro (lt_at hd3) (And.intro (zh I items) trivial))))))) (by kernel_rfl) (by (simp only [sd65, go_sem, Nat.reduceAdd, Nat.reduceEqDiff, Nat.reduceLT, Nat.reduceLeDiff, bI2, zU.idsL, zU.renL, zU.snapAll, zg.idsL, zg.renL, zg.snapAll]) <;> rfl) (ih (i3 + 1) (w64 (va3_0 - (imin va3_0 (r_Gain (GS.at e.items x3))))) (va3_1 ++ [w64 ((w64 (((GS.at e.items x3).now.lo) + ((GS.at e.items x3).error))) + (imin va3_0 (r_Gain (GS.at e.items x3))))]) (zJ hd3) (zr hd3) (by first | assumption | omega) (by first | assumption | omega | (with_reducible exact zc) | (with_reducible exact Nat.le_trans zq (by omega)) | (simp only [z8] at * <;> omega) | (simp only [z7, z6, z5, GS.some_l, List.length_set, List.length_append, List.length_cons, List.length_nil] at * <;> first | with_reducible assumption | omega) | (simp only [z7, z6, z5, GS.some_l, List.length_set, List.length_append, List.length_cons, List.length_nil, z8] at * <;> first | with_reducible assumption | omega) | (simp at * <;> omega)) (by first | assumption | omega)) (by kernel_rfl)
theorem ivt_r_spread_3a (e : S_Estate) (items : GS Int) (rest : Int) : ∀ (rest3 : List Int) (i3 : Nat) (va3_0 : Int) (va3_1 : List Int) (hd3 : items.l.drop i3 = rest3) (hi3 : i3 ≤ items.l.length) (hall : ∀ i ∈ items.l, 0 ≤ i ∧ i < ((e.items.l.length : Nat) : Int)) (hg3_va3_1 : va3_1.length ≤ i3) (hL3 : items.l.length ≤ 1099511627776), iv_r_spread_3 e items rest (r_spread_3a e rest rest3 va3_0 va3_1) := by
  intro rest3
  induction rest3 with
  | nil =>
    intro i3 va3_0 va3_1 hd3 hi3 hall hg3_va3_1 hL3
    unfold r_spread_3a
    obtain rfl : i3 = items.l.length := nil_eq hd3 hi3
    exact hg3_va3_1
  | cons x3 rest3 ih =>
    intro i3 va3_0 va3_1 hd3 hi3 hall hg3_va3_1 hL3
    have hlt3 := zr hd3
    have hbx := hall x3 (mem_drop hd3)
    unfold r_spread_3a
    exact ih (i3 + 1) (w64 (va3_0 - (imin va3_0 (r_Gain (GS.at e.items x3))))) (va3_1 ++ [w64 ((w64 (((GS.at e.items x3).now.lo) + ((GS.at e.items x3).error))) + (imin va3_0 (r_Gain (GS.at e.items x3))))]) (zJ hd3) (zr hd3) (by first | assumption | omega) (by first | assumption | omega | (with_reducible exact zc) | (with_reducible exact Nat.le_trans zq (by omega)) | (simp only [z8] at * <;> omega) | (simp only [z7, z6, z5, GS.some_l, List.length_set, List.length_append, List.length_cons, List.length_nil] at * <;> first | with_reducible assumption | omega) | (simp only [z7, z6, z5, GS.some_l, List.length_set, List.length_append, List.length_cons, List.length_nil, z8] at * <;> first | with_reducible assumption | omega) | (simp at * <;> omega)) (by first | assumption | omega)
theorem lp_r_spread_3 (e : S_Estate) (items : GS Int) (rest : Int) : ∀ (rest3 : List Int) (i3 : Nat) (hd3 : items.l.drop i3 = rest3) (hi3 : i3 ≤ items.l.length) (hall : ∀ i ∈ items.l, 0 ≤ i ∧ i < ((e.items.l.length : Nat) : Int)) (hL3 : items.l.length ≤ 1099511627776), (lim cfg).loop 75 lp75_3 ⟨44, [(1, .sl items.nl (items.l.map I) (zsl items.nl 1) none), (2, I rest), (3, .lref 0 0 3 0), (7, .sl true [] 0 none), (8, I ((i3 : Nat) : Int))], [(0, ⟨[.agg [.sl e.items.nl (e.items.l.map S_Item.D) (zsl e.items.nl 4) none, I e.whole.lo, I e.whole.hi]], 3, false⟩)], 1, 0⟩ = some (lr_r_spread_3 e items rest (r_spread_3 e rest rest3)) := by
  intro rest3
  induction rest3 with
  | nil =>
    intro i3 hd3 hi3 hall hL3
    unfold r_spread_3
    obtain rfl : i3 = items.l.length := nil_eq hd3 hi3
    exact zO [.rw 13 (I ((items.l.length : Nat) : Int)), .dec false] (And.intro (lt_no hd3) (And.intro (zh I items) trivial)) (by kernel_rfl)
  | cons x3 rest3 ih =>
    intro i3 hd3 hi3 hall hL3
    have hlt3 := zr hd3
    have hbx := hall x3 (mem_drop hd3)
    unfold r_spread_3
    dsimp only
    exact po_turn [.rw 13 (I ((items.l.length : Nat) : Int)), .dec true, .el (I x3), .el (.agg [I ((GS.at e.items x3).now.lo), I ((GS.at e.items x3).now.hi), I ((GS.at e.items x3).cost), I ((GS.at e.items x3).error)]), .pure (I (r_Gain (GS.at e.items x3))), .rw 16 (I ((i3 + 1 : Nat) : Int))] (And.intro (yb (i := i3) (by have := zr hd3; omega)) (And.intro (T_r_Gain (GS.at e.items x3)) (And.intro (el_in (s := e.items) (f := S_Item.D) (k := 4) (i := x3) (by first | assumption | omega) (by first | assumption | omega)) (And.intro (el_at (s := items) (f := I) (k := 1) hd3) (And.intro (lt_at hd3) (And.intro (zh I items) trivial)))))) (lp_r_spread_3a e items rest _ (i3 + 1) (w64 (rest - (imin rest (r_Gain (GS.at e.items x3))))) [w64 ((w64 (((GS.at e.items x3).now.lo) + ((GS.at e.items x3).error))) + (imin rest (r_Gain (GS.at e.items x3))))] (zJ hd3) (zr hd3) (by first | assumption | omega) (by first | assumption | omega | (with_reducible exact zc) | (with_reducible exact Nat.le_trans zq (by omega)) | (simp only [z8] at * <;> omega) | (simp only [z7, z6, z5, GS.some_l, List.length_set, List.length_append, List.length_cons, List.length_nil] at * <;> first | with_reducible assumption | omega) | (simp only [z7, z6, z5, GS.some_l, List.length_set, List.length_append, List.length_cons, List.length_nil, z8] at * <;> first | with_reducible assumption | omega) | (simp at * <;> omega)) (by first | assumption | omega)) (by kernel_rfl)
theorem ivt_r_spread_3 (e : S_Estate) (items : GS Int) (rest : Int) : ∀ (rest3 : List Int) (i3 : Nat) (hd3 : items.l.drop i3 = rest3) (hi3 : i3 ≤ items.l.length) (hall : ∀ i ∈ items.l, 0 ≤ i ∧ i < ((e.items.l.length : Nat) : Int)) (hL3 : items.l.length ≤ 1099511627776), iv_r_spread_3 e items rest (r_spread_3 e rest rest3) := by
  intro rest3
  induction rest3 with
  | nil =>
    intro i3 hd3 hi3 hall hL3
    unfold r_spread_3
    obtain rfl : i3 = items.l.length := nil_eq hd3 hi3
    exact trivial
  | cons x3 rest3 ih =>
    intro i3 hd3 hi3 hall hL3
    have hlt3 := zr hd3
    have hbx := hall x3 (mem_drop hd3)
    unfold r_spread_3
    dsimp only
    exact ivt_r_spread_3a e items rest _ (i3 + 1) (w64 (rest - (imin rest (r_Gain (GS.at e.items x3))))) [w64 ((w64 (((GS.at e.items x3).now.lo) + ((GS.at e.items x3).error))) + (imin rest (r_Gain (GS.at e.items x3))))] (zJ hd3) (zr hd3) (by first | assumption | omega) (by first | assumption | omega | (with_reducible exact zc) | (with_reducible exact Nat.le_trans zq (by omega)) | (simp only [z8] at * <;> omega) | (simp only [z7, z6, z5, GS.some_l, List.length_set, List.length_append, List.length_cons, List.length_nil] at * <;> first | with_reducible assumption | omega) | (simp only [z7, z6, z5, GS.some_l, List.length_set, List.length_append, List.length_cons, List.length_nil, z8] at * <;> first | with_reducible assumption | omega) | (simp at * <;> omega)) (by first | assumption | omega)

def r_spread (e : S_Estate) (items : GS Int) (rest : Int) : (GS Int) :=
  match r_spread_3 e rest items.l with
  | .x0 va3_0 va3_1 =>
    GS.some va3_1
  | .x1 =>
    GS.nil

def sd66 (e : S_Estate) (items : GS Int) (va3_0 : Int) (va3_1 : List Int) : St := ⟨44, [(14, B false), (13, I ((items.l.length : Nat) : Int)), (12, .sl items.nl (items.l.map I) (zsl items.nl 1) none), (11, I ((items.l.length : Nat) : Int)), (1, .sl items.nl (items.l.map I) (zsl items.nl 1) none), (2, I va3_0), (3, .lref 0 0 3 0), (7, .lsl 1 0 va3_1.length 1 none), (8, I ((items.l.length : Nat) : Int))], [(0, ⟨[.agg [.sl e.items.nl (e.items.l.map S_Item.D) (zsl e.items.nl 4) none, I e.whole.lo, I e.whole.hi]], 3, false⟩), (1, ⟨va3_1.map I, 1, false⟩)], 2, 0⟩

def sd67 (e : S_Estate) (items : GS Int) (rest : Int) : St := ⟨44, [(14, B false), (13, I ((items.l.length : Nat) : Int)), (12, .sl items.nl (items.l.map I) (zsl items.nl 1) none), (11, I ((items.l.length : Nat) : Int)), (1, .sl items.nl (items.l.map I) (zsl items.nl 1) none), (2, I rest), (3, .lref 0 0 3 0), (7, .sl true [] 0 none), (8, I ((items.l.length : Nat) : Int))], [(0, ⟨[.agg [.sl e.items.nl (e.items.l.map S_Item.D) (zsl e.items.nl 4) none, I e.whole.lo, I e.whole.hi]], 3, false⟩)], 1, 0⟩

theorem T_r_spread (e : S_Estate) (items : GS Int) (rest : Int) (hall : ∀ i ∈ items.l, 0 ≤ i ∧ i < ((e.items.l.length : Nat) : Int)) (hL_items : items.l.length ≤ 1099511627776) : (lim cfg).pure 75 [S_Estate.D e, GS.D I 1 items, I rest] = some (GS.D I 1 (r_spread e items rest)) := by
  unfold r_spread
  cases h1 : r_spread_3 e rest items.l with
  | x0 va3_0 va3_1 =>
    try dsimp only
    have hv_h1 := ivt_r_spread_3 e items rest items.l 0 (List.drop_zero) (Nat.zero_le _) (by first | assumption | omega) (by first | assumption | omega)
    rw [h1] at hv_h1
    have hv_h1_0 := hv_h1
    try dsimp only [iv_r_spread_3] at hv_h1_0
    exact po_pureS [.loop (.exit 0) (sd66 e items va3_0 va3_1)] [(1, .sl false (va3_1.map I) 1 none, [1])] (And.intro (snap_row (gO := zD [(0, ⟨[.agg [.sl e.items.nl (e.items.l.map S_Item.D) (zsl e.items.nl 4) none, I e.whole.lo, I e.whole.hi]], 3, false⟩), (1, ⟨va3_1.map I, 1, false⟩)]) (o := 1) (len := va3_1.length) (cap := none) (fz := false) zU va3_1 (by kernel_rfl) (by first | assumption | omega)) (And.intro (po_lr (q := lr_r_spread_3 e items rest) (lp_r_spread_3 e items rest items.l 0 (List.drop_zero) (Nat.zero_le _) (by first | assumption | omega) (by first | assumption | omega)) h1) trivial)) (by kernel_rfl)
  | x1 =>
    try dsimp only
    exact za [.loop (.exit 0) (sd67 e items rest)] (And.intro (po_lr (q := lr_r_spread_3 e items rest) (lp_r_spread_3 e items rest items.l 0 (List.drop_zero) (Nat.zero_le _) (by first | assumption | omega) (by first | assumption | omega)) h1) trivial) (by kernel_rfl)

noncomputable def lp15_4 : Code := subC [1, 1, 0, 1, 0, 0] (bodyC Tryz.f15)

inductive LR_slices_Equal_4 where
  | x0
  | x1 (i4 : Nat) (x4 : Int)
instance : Inhabited LR_slices_Equal_4 := ⟨.x0⟩
def slices_Equal_4 (b : GS Int) : List Int → Nat → LR_slices_Equal_4
  | [], i4 => .x0
  | x4 :: rest4, i4 =>
    bif (x4 != (GS.at b ((i4 : Nat) : Int))) then
      .x1 i4 x4
    else
      slices_Equal_4 b rest4 (i4 + 1)
def lr_slices_Equal_4 (a : GS Int) (b : GS Int) : LR_slices_Equal_4 → Exit × St
  | .x0 => ((.exit 0), ⟨26, [(14, B false), (0, .sl a.nl (a.l.map I) (zsl a.nl 1) none), (1, .sl b.nl (b.l.map I) (zsl b.nl 1) none), (12, I ((a.l.length : Nat) : Int)), (13, I ((a.l.length : Nat) : Int))], [], 0, 0⟩)
  | .x1 i4 x4 => (.ret, ⟨26, [(4, B false), (24, B true), (23, I (GS.at b ((i4 : Nat) : Int))), (22, .ptr (I (GS.at b ((i4 : Nat) : Int)))), (21, I ((i4 : Nat) : Int)), (20, .sl b.nl (b.l.map I) (zsl b.nl 1) none), (19, I x4), (18, .ptr (I x4)), (17, I ((i4 : Nat) : Int)), (16, .sl a.nl (a.l.map I) (zsl a.nl 1) none), (5, I ((i4 : Nat) : Int)), (15, I ((i4 : Nat) : Int)), (14, B true), (0, .sl a.nl (a.l.map I) (zsl a.nl 1) none), (1, .sl b.nl (b.l.map I) (zsl b.nl 1) none), (12, I ((a.l.length : Nat) : Int)), (13, I ((i4 : Nat) : Int))], [], 0, 0⟩)
theorem lp_slices_Equal_4 (a : GS Int) (b : GS Int) : ∀ (rest4 : List Int) (i4 : Nat) (hd4 : a.l.drop i4 = rest4) (hi4 : i4 ≤ a.l.length) (hS : a.l.length = b.l.length) (hL4 : a.l.length ≤ 9223372036854775807), (lim cfg).loop 15 lp15_4 ⟨26, [(0, .sl a.nl (a.l.map I) (zsl a.nl 1) none), (1, .sl b.nl (b.l.map I) (zsl b.nl 1) none), (12, I ((a.l.length : Nat) : Int)), (13, I ((i4 : Nat) : Int))], [], 0, 0⟩ = some (lr_slices_Equal_4 a b (slices_Equal_4 b rest4 i4)) := by
  intro rest4
  induction rest4 with
  | nil =>
    intro i4 hd4 hi4 hS hL4
    unfold slices_Equal_4
    obtain rfl : i4 = a.l.length := nil_eq hd4 hi4
    exact zO [.dec false] (And.intro (lt_no hd4) trivial) (by kernel_rfl)
  | cons x4 rest4 ih =>
    intro i4 hd4 hi4 hS hL4
    have hlt4 := zr hd4
    unfold slices_Equal_4
    cases h3 : (x4 != (GS.at b ((i4 : Nat) : Int))) with
    | true =>
      have g3 := bne_true h3
      exact zO [.dec true, .el (I x4), .el (I (GS.at b ((i4 : Nat) : Int))), .dec true] (And.intro h3 (And.intro (el_in (s := b) (f := I) (k := 1) (i := ((i4 : Nat) : Int)) (by first | assumption | omega) (by first | assumption | omega)) (And.intro (el_at (s := a) (f := I) (k := 1) hd4) (And.intro (lt_at hd4) trivial)))) (by kernel_rfl)
    | false =>
      have g3 := bne_false h3
      exact po_turn [.dec true, .el (I x4), .el (I (GS.at b ((i4 : Nat) : Int))), .dec false, .rw 25 (I ((i4 + 1 : Nat) : Int))] (And.intro (yb (i := i4) (by have := zr hd4; omega)) (And.intro h3 (And.intro (el_in (s := b) (f := I) (k := 1) (i := ((i4 : Nat) : Int)) (by first | assumption | omega) (by first | assumption | omega)) (And.intro (el_at (s := a) (f := I) (k := 1) hd4) (And.intro (lt_at hd4) trivial))))) (ih (i4 + 1) (zJ hd4) (zr hd4) (by first | assumption | omega) (by first | assumption | omega)) (by kernel_rfl)

def zt (a : GS Int) (b : GS Int) : Bool :=
  bif (((a.l.length : Nat) : Int) != ((b.l.length : Nat) : Int)) then
    false
  else
    match slices_Equal_4 b a.l 0 with
    | .x0 =>
      true
    | .x1 i4 x4 =>
      false

def slices_Equal_o1 (a : GS Int) (b : GS Int) : List Ora := [.rw 7 (I ((a.l.length : Nat) : Int)), .rw 9 (I ((b.l.length : Nat) : Int)), .dec false, .rw 12 (I ((a.l.length : Nat) : Int))]

def sd71 (a : GS Int) (b : GS Int) : St := ⟨26, [(14, B false), (0, .sl a.nl (a.l.map I) (zsl a.nl 1) none), (1, .sl b.nl (b.l.map I) (zsl b.nl 1) none), (12, I ((a.l.length : Nat) : Int)), (13, I ((a.l.length : Nat) : Int))], [], 0, 0⟩

def sd72 (a : GS Int) (b : GS Int) (i4 : Nat) (x4 : Int) : St := ⟨26, [(4, B false), (24, B true), (23, I (GS.at b ((i4 : Nat) : Int))), (22, .ptr (I (GS.at b ((i4 : Nat) : Int)))), (21, I ((i4 : Nat) : Int)), (20, .sl b.nl (b.l.map I) (zsl b.nl 1) none), (19, I x4), (18, .ptr (I x4)), (17, I ((i4 : Nat) : Int)), (16, .sl a.nl (a.l.map I) (zsl a.nl 1) none), (5, I ((i4 : Nat) : Int)), (15, I ((i4 : Nat) : Int)), (14, B true), (0, .sl a.nl (a.l.map I) (zsl a.nl 1) none), (1, .sl b.nl (b.l.map I) (zsl b.nl 1) none), (12, I ((a.l.length : Nat) : Int)), (13, I ((i4 : Nat) : Int))], [], 0, 0⟩

theorem yd (a : GS Int) (b : GS Int) (hL_a : a.l.length ≤ 9223372036854775807) : (lim cfg).pure 15 [GS.D I 1 a, GS.D I 1 b] = some (B (zt a b)) := by
  unfold zt
  cases h1 : (((a.l.length : Nat) : Int) != ((b.l.length : Nat) : Int)) with
  | true =>
    have g1 := bne_true h1
    exact za [.rw 7 (I ((a.l.length : Nat) : Int)), .rw 9 (I ((b.l.length : Nat) : Int)), .dec true] (And.intro h1 (And.intro (zh I b) (And.intro (zh I a) trivial))) (by kernel_rfl)
  | false =>
    have g1 := bne_false h1
    cases h4 : slices_Equal_4 b a.l 0 with
    | x0 =>
      try dsimp only
      exact za ((slices_Equal_o1 a b) ++ [.loop (.exit 0) (sd71 a b)]) (And.intro (po_lr (q := lr_slices_Equal_4 a b) (lp_slices_Equal_4 a b a.l 0 (List.drop_zero) (Nat.zero_le _) (by first | assumption | omega) (by first | assumption | omega)) h4) (And.intro (zh I a) (And.intro h1 (And.intro (zh I b) (And.intro (zh I a) trivial))))) (by kernel_rfl)
    | x1 i4 x4 =>
      try dsimp only
      exact za ((slices_Equal_o1 a b) ++ [.loop .ret (sd72 a b i4 x4)]) (And.intro (po_lr (q := lr_slices_Equal_4 a b) (lp_slices_Equal_4 a b a.l 0 (List.drop_zero) (Nat.zero_le _) (by first | assumption | omega) (by first | assumption | omega)) h4) (And.intro (zh I a) (And.intro h1 (And.intro (zh I b) (And.intro (zh I a) trivial))))) (by kernel_rfl)
end Go.VS

/-
  Orders: the reference's functions, plainly. (A text of this claim's own; nothing of it is trusted.)
-/
namespace Go.VS
open Go Go.Proofs
set_option maxHeartbeats 0
theorem rgain_eq (x : S_Item) : r_Gain x = zj x := by
  unfold r_Gain zj
  rw [imax_eq, imax_eq]
  omega
theorem rspread_eq (e : S_Estate) (items : GS Int) (s : Int) : r_spread e items s = orders_shown e items s := by
  have key : ∀ (l : List Int) (n : Int) (v : List Int), ∃ m w, r_spread_3a e s l n v = .x0 m w ∧ orders_shown_3a e s l n v = .x0 m w := by
    intro l
    induction l with
    | nil => intro n v; exact ⟨n, v, rfl, rfl⟩
    | cons x l ih =>
      intro n v
      unfold r_spread_3a orders_shown_3a
      rw [rgain_eq]
      exact ih _ _
  unfold r_spread orders_shown
  cases items.l with
  | nil => rfl
  | cons x l =>
    unfold r_spread_3 orders_shown_3
    dsimp only
    rw [rgain_eq]
    obtain ⟨m, w, h1, h2⟩ := key l (w64 (s - (imin s (zj (GS.at e.items x))))) [w64 ((w64 (((GS.at e.items x).now.lo) + ((GS.at e.items x).error))) + (imin s (zj (GS.at e.items x))))]
    rw [h1, h2]
theorem rcosts_eq (e : S_Estate) (items : GS Int) : r_costs e items = zP e items := by
  have key : ∀ (l : List Int) (n : Int), ∃ m, r_costs_3 e l n = .x0 m ∧ orders_cost_3 e l n = .x0 m := by
    intro l
    induction l with
    | nil => intro n; exact ⟨n, rfl, rfl⟩
    | cons x l ih => intro n; exact ih _
  unfold r_costs zP
  obtain ⟨m, h1, h2⟩ := key items.l 0
  rw [h1, h2]
theorem rgains3_eq {e : S_Estate} (h : V e) : ∀ (l : List Int) (n : Int), (∀ i ∈ l, 0 ≤ i ∧ i < (e.items.l.length : Int)) → 0 ≤ n → n + 1073741824 * (l.length : Int) ≤ 4611686018427387904 → r_gains_3 e l n = .x0 (n + tot (gs e l))
  | [], n, _, _, _ => by simp [r_gains_3, gs, tot]
  | x :: l, n, hi, h0, h1 => by
    have hk := h.it _ (at_mem (hi x List.mem_cons_self).1 (hi x List.mem_cons_self).2)
    have hg := gn_bd hk
    have := hk.1; have := hk.2.2.1
    simp only [List.length_cons] at h1
    unfold r_gains_3
    rw [rgain_eq, gain_eq hk, w64_eq (by omega) (by omega), rgains3_eq h l _ (fun i hm => hi i (List.mem_cons_of_mem _ hm)) (by omega) (by omega)]
    simp only [gs, List.map_cons, tot]
    congr 1
    omega
theorem rgains_eq {e : S_Estate} (h : V e) {items : GS Int} (hi : inc (-1) (e.items.l.length : Int) items.l) : r_gains e items = tot (gs e items.l) := by
  have := inc_short h hi
  unfold r_gains
  rw [rgains3_eq h items.l 0 (inc_mem hi) (by omega) (by omega)]
  simp
theorem rfirst_eq {e : S_Estate} {items : GS Int} (hL : items.l.length ≤ 9223372036854775807) : r_first e items = zB e items := by
  unfold r_first
  cases hv : r_Valid e with
  | false =>
    have h1 : zN e = 80 := by rw [check_valid, hv]; rfl
    unfold zB
    rw [h1]
    rfl
  | true =>
    have h := valid_iff.1 hv
    cases hr : r_Right e items with
    | true => rw [right_of hL h ((rright_iff hL).1 hr)]; rfl
    | false =>
      have hn : ¬ zB e items = 0 := fun h0 => by
        rw [(rright_iff hL).2 ((right_iff hL).1 h0).2] at hr; cases hr
      unfold zB at hn ⊢
      rw [check_iff.2 h] at hn ⊢
      revert hn
      cases orders_right_5 e items items.l 0 <;> simp
theorem rtotal_eq {e : S_Estate} (h : V e) : r_Total e = sHi e.items.l - sLo e.items.l := by
  have hb := sums_bd h.sp
  have := h.n2
  unfold r_Total
  rw [rall_eq, all_eq h.sp h.n2]
  exact w64_eq (by simp only []; omega) (by simp only []; omega)
theorem equal_of {a b : GS Int} (h : a.l = b.l) : zt a b = true := by
  have key : ∀ (l : List Int) (i : Nat), b.l.drop i = l → slices_Equal_4 b l i = .x0 := by
    intro l
    induction l with
    | nil => intro i _; rfl
    | cons x l ih =>
      intro i hd
      unfold slices_Equal_4
      rw [at_of hd, bne_self_eq_false]
      exact ih _ (zJ hd)
  unfold zt
  rw [h, bne_self_eq_false, key b.l 0 List.drop_zero]
  rfl
end Go.VS

/-
  VS, part V3: ranges over functions, what is met being told beforehand. (A text of this claim's own; nothing of it is trusted.)
-/
namespace Go.VS
open Go

def evRoundO (C : Cfg) (S : Sm) (R : Rnd) (args : List D) (objs : List (Nat × Ob)) (nxt : Nat) (ors : List Ora) (acc : List Prop) : Option (Exit × St × List Ora × List Prop) := match eqb R.ps.length args.length with
  | true => match evCodeO C S R.f R.assign ⟨R.n, putPs R.n R.ps args R.tmps, objs, nxt, nxt⟩ ors acc with
    | some (.normal, st, ors1, acc1) => evCodeO C S R.f R.body st ors1 acc1
    | _ => none
  | false => none
def evOpsYO (C : Cfg) (S : Sm) (R : Rnd) (ops : Array Oper) : List Oper → St → List Ora → List Prop → Option (St × Option Code × List Ora × List Prop)
  | [], st, ors, acc => some (st, none, ors, acc)
  | o :: l, st, ors, acc => match wantD ops (get st.tmps) o.guard with
    | some true => match yldOf C (get st.tmps) R.y o with
      | some args => match evRoundO C S R (args.map (zC C (get st.tmps))) st.objs st.nxt ors acc with
        | some (e, s, ors1, acc1) => match e with
          | .normal => evOpsYO C S R ops l ⟨st.n, putT st.n st.tmps o.dst (B true), s.objs, s.nxt, st.pin⟩ ors1 acc1
          | .ret => match evOpsO C S ops l ⟨st.n, putT st.n st.tmps o.dst (B false), s.objs, s.nxt, st.pin⟩ ors1 acc1 with
            | some (st', ors2, acc2) => some (st', some Code.ret, ors2, acc2)
            | none => none
          | .exit id => match evOpsO C S ops l ⟨st.n, putT st.n st.tmps o.dst (B false), s.objs, s.nxt, st.pin⟩ ors1 acc1 with
            | some (st', ors2, acc2) => some (st', some (Code.exit id), ors2, acc2)
            | none => none
          | _ => none
        | none => none
      | none => match opO C S (get st.tmps) st.objs st.nxt o ors acc with
        | some (r, ors1, acc1) => match decO o r.d ors1 acc1 with
          | (d, ors2, acc2) => evOpsYO C S R ops l ⟨st.n, putT st.n st.tmps o.dst d, applyUpd r.wr st.objs, r.nxt, st.pin⟩ ors2 acc2
        | none => none
    | some false => evOpsYO C S R ops l ⟨st.n, putT st.n st.tmps o.dst (.tup []), st.objs, st.nxt, st.pin⟩ ors acc
    | none => none
def evCodeYO (C : Cfg) (S : Sm) (R : Rnd) (f : FuncId) : Code → St → List Ora → List Prop → Option (Exit × St × Option Code × List Ora × List Prop)
  | .skip, st, ors, acc => some (.normal, st, none, ors, acc)
  | .label _, st, ors, acc => some (.normal, st, none, ors, acc)
  | .ret, st, ors, acc => some (.ret, st, none, ors, acc)
  | .exit id, st, ors, acc => some (.exit id, st, none, ors, acc)
  | .region id ops draw, st, ors, acc => match draw with
    | true => match evCodeO C S f (.region id ops true) st ors acc with
      | some (e, st', ors', acc') => some (e, st', none, ors', acc')
      | none => none
    | false => match evOpsYO C S R ops ops.toList st ors acc with
      | some (st', p, ors', acc') => some (.normal, st', p, ors', acc')
      | none => none
  | .seq a b, st, ors, acc => match evCodeYO C S R f a st ors acc with
    | some (e, st', p, ors', acc') => match e with
      | .normal => match p with
        | none => evCodeYO C S R f b st' ors' acc'
        | some p => match evCodeO C S f b st' ors' acc' with
          | some (e, st2, ors2, acc2) => some (e, st2, some p, ors2, acc2)
          | none => none
      | e => some (e, st', p, ors', acc')
    | none => none
  | .cond c a b, st, ors, acc => match boolOf (zC C (get st.tmps) c) with
    | some true => evCodeYO C S R f a st ors acc
    | some false => evCodeYO C S R f b st ors acc
    | none => none
  | .block id a, st, ors, acc => match evCodeYO C S R f a st ors acc with
    | some (.exit id', st', p, ors', acc') => match eqb id' id with
      | true => some (.normal, st', p, ors', acc')
      | false => some (.exit id', st', p, ors', acc')
    | r => r
  | .loop a, st, ors, acc => match ors with
    | .loopY e st' p :: ors' => match gc (C.keep f (firstRegion a)) st with
      | some st1 => some (e, st', p, ors', (S.loopY R f a st1 = some (e, st', p)) :: acc)
      | none => none
    | .gloopY st1 e st' p :: ors' => some (e, st', p, ors', (S.loopY R f a st1 = some (e, st', p)) :: (gc (C.keep f (firstRegion a)) st = some st1) :: acc)
    | _ => none
  | .scope a, st, ors, acc => match evCodeYO C S R f a st ors acc with
    | some (.goto _, _, _, _, _) => none
    | r => r
  | _, _, _, _ => none

section
variable {C : Cfg} {S : Sm} {R : Rnd}
theorem evRoundO_sound {args : List D} {objs : List (Nat × Ob)} {nxt : Nat} {ors ors' : List Ora} {acc acc' : List Prop} {e : Exit} {st : St} (h : evRoundO C S R args objs nxt ors acc = some (e, st, ors', acc')) (hp : allP acc') : evRound C S R args objs nxt = some (e, st) ∧ allP acc := by
  unfold evRoundO at h
  unfold evRound
  split at h
  · rename_i hl
    rw [if_pos hl]
    split at h
    · rename_i st1 ors1 acc1 h1
      obtain ⟨h2, h3⟩ := evCodeO_sound _ _ _ _ _ _ _ _ h hp
      obtain ⟨h4, h5⟩ := evCodeO_sound _ _ _ _ _ _ _ _ h1 h3
      rw [h4]
      exact ⟨h2, h5⟩
    · cases h
  · cases h
theorem evOpsYO_sound {ops : Array Oper} : ∀ (l : List Oper) (st st' : St) (p : Option Code) (ors ors' : List Ora) (acc acc' : List Prop), evOpsYO C S R ops l st ors acc = some (st', p, ors', acc') → allP acc' → evOpsY C S R ops l st = some (st', p) ∧ allP acc
  | [], _, _, _, _, _, _, _, h, hp => by simp only [evOpsYO, Option.some.injEq, Prod.mk.injEq] at h; obtain ⟨rfl, rfl, rfl, rfl⟩ := h; exact ⟨rfl, hp⟩
  | o :: l, st, st', p, ors, ors', acc, acc', h, hp => by
    simp only [evOpsYO] at h
    simp only [evOpsY]
    split at h
    · rename_i hw
      simp only [hw]
      split at h
      · rename_i args hy
        simp only [hy]
        split at h
        · rename_i e s ors1 acc1 hr
          split at h
          · obtain ⟨h1, h2⟩ := evOpsYO_sound l _ _ _ _ _ _ _ h hp
            obtain ⟨h3, h4⟩ := evRoundO_sound hr h2
            rw [h3]
            exact ⟨h1, h4⟩
          · split at h
            · rename_i st2 ors2 acc2 h1
              cases h
              obtain ⟨h5, h2⟩ := evOpsO_sound _ _ _ _ _ _ _ h1 hp
              obtain ⟨h3, h4⟩ := evRoundO_sound hr h2
              rw [h3]
              simp only [h5]
              exact ⟨trivial, h4⟩
            · cases h
          · split at h
            · rename_i st2 ors2 acc2 h1
              cases h
              obtain ⟨h5, h2⟩ := evOpsO_sound _ _ _ _ _ _ _ h1 hp
              obtain ⟨h3, h4⟩ := evRoundO_sound hr h2
              rw [h3]
              simp only [h5]
              exact ⟨trivial, h4⟩
            · cases h
          · cases h
        · cases h
      · rename_i hy
        simp only [hy]
        split at h
        · rename_i r ors1 acc1 hop
          obtain ⟨d, ors2, acc2, hdec⟩ : ∃ d o2 a2, decO o r.d ors1 acc1 = (d, o2, a2) := ⟨_, _, _, rfl⟩
          rw [hdec] at h
          simp only [] at h
          obtain ⟨h1, h2⟩ := evOpsYO_sound l _ _ _ _ _ _ _ h hp
          obtain ⟨rfl, h3⟩ := decO_sound hdec h2
          obtain ⟨h4, h5⟩ := opO_sound hop h3
          simp only [h4]
          exact ⟨h1, h5⟩
        · cases h
    · rename_i hw
      obtain ⟨h1, h2⟩ := evOpsYO_sound l _ _ _ _ _ _ _ h hp
      simp only [hw]
      exact ⟨h1, h2⟩
    · cases h
theorem evCodeYO_sound {f : FuncId} : ∀ (c : Code) (st : St) (e : Exit) (st' : St) (p : Option Code) (ors ors' : List Ora) (acc acc' : List Prop), evCodeYO C S R f c st ors acc = some (e, st', p, ors', acc') → allP acc' → zR C S R f c st = some (e, st', p) ∧ allP acc := by
  intro c
  induction c with
  | region id ops draw =>
    intro st e st' p ors ors' acc acc' h hp
    simp only [evCodeYO] at h
    simp only [zR]
    split at h
    · split at h
      · rename_i e1 st1 ors1 acc1 h1
        cases h
        obtain ⟨h2, h3⟩ := evCodeO_sound _ _ _ _ _ _ _ _ h1 hp
        simp only [if_true, h2, withP]
        exact ⟨trivial, h3⟩
      · cases h
    · split at h
      · rename_i st1 p1 ors1 acc1 h1
        cases h
        obtain ⟨h2, h3⟩ := evOpsYO_sound _ _ _ _ _ _ _ _ h1 hp
        simp only [Bool.false_eq_true, if_false, h2]
        exact ⟨trivial, h3⟩
      · cases h
  | seq x y ihx ihy =>
    intro st e st' p ors ors' acc acc' h hp
    simp only [evCodeYO] at h
    simp only [zR]
    split at h
    · rename_i e1 st1 p1 ors1 acc1 h1
      split at h
      · split at h
        · obtain ⟨h2, h3⟩ := ihy _ _ _ _ _ _ _ _ h hp
          obtain ⟨h4, h5⟩ := ihx _ _ _ _ _ _ _ _ h1 h3
          simp only [h4]
          exact ⟨h2, h5⟩
        · rename_i p2
          split at h
          · rename_i e2 st2 ors2 acc2 h2
            cases h
            obtain ⟨h6, h3⟩ := evCodeO_sound _ _ _ _ _ _ _ _ h2 hp
            obtain ⟨h4, h5⟩ := ihx _ _ _ _ _ _ _ _ h1 h3
            simp only [h4, h6, withP]
            exact ⟨trivial, h5⟩
          · cases h
      · rename_i hn
        cases h
        obtain ⟨h4, h5⟩ := ihx _ _ _ _ _ _ _ _ h1 hp
        rw [h4]
        refine ⟨?_, h5⟩
        split
        · rename_i h6; cases h6; exact absurd rfl hn
        · rename_i h6; cases h6; exact absurd rfl hn
        · rfl
    · cases h
  | cond c x y ihx ihy =>
    intro st e st' p ors ors' acc acc' h hp
    simp only [evCodeYO] at h
    simp only [zR]
    split at h
    · rename_i ht
      rw [boolOf_some ht]
      exact ihx _ _ _ _ _ _ _ _ h hp
    · rename_i ht
      rw [boolOf_some ht]
      exact ihy _ _ _ _ _ _ _ _ h hp
    · cases h
  | block id x ih =>
    intro st e st' p ors ors' acc acc' h hp
    simp only [evCodeYO] at h
    simp only [zR]
    split at h
    · rename_i id' st1 p1 ors1 acc1 h1
      split at h
      · rename_i hid
        cases h
        obtain ⟨h4, h5⟩ := ih _ _ _ _ _ _ _ _ h1 hp
        rw [h4]
        exact ⟨by simp only [eqb_iff.1 hid, if_true], h5⟩
      · rename_i hid
        cases h
        obtain ⟨h4, h5⟩ := ih _ _ _ _ _ _ _ _ h1 hp
        rw [h4]
        exact ⟨by simp only [eqb_false.1 hid, if_false], h5⟩
    · rename_i hn
      obtain ⟨h4, h5⟩ := ih _ _ _ _ _ _ _ _ h hp
      rw [h4]
      refine ⟨?_, h5⟩
      split
      · rename_i id' st1 p1 h6
        cases h6
        exact absurd h (hn _ _ _ _ _)
      · rfl
  | loop x ih =>
    intro st e st' p ors ors' acc acc' h hp
    simp only [evCodeYO] at h
    simp only [zR]
    split at h
    · split at h
      · rename_i st1 hg
        cases h
        rw [hg]
        exact ⟨hp.1, hp.2⟩
      · cases h
    · cases h
      rw [hp.2.1]
      exact ⟨hp.1, hp.2.2⟩
    · cases h
  | scope x ih =>
    intro st e st' p ors ors' acc acc' h hp
    simp only [evCodeYO] at h
    simp only [zR]
    split at h
    · cases h
    · rename_i hn
      obtain ⟨h4, h5⟩ := ih _ _ _ _ _ _ _ _ h hp
      rw [h4]
      refine ⟨?_, h5⟩
      split
      · rename_i l st1 p1 h6
        cases h6
        exact absurd h (hn _ _ _ _ _)
      · rfl
  | skip => intro st e st' p ors ors' acc acc' h hp; simp only [evCodeYO, Option.some.injEq, Prod.mk.injEq] at h; obtain ⟨rfl, rfl, rfl, rfl, rfl⟩ := h; exact ⟨rfl, hp⟩
  | label l => intro st e st' p ors ors' acc acc' h hp; simp only [evCodeYO, Option.some.injEq, Prod.mk.injEq] at h; obtain ⟨rfl, rfl, rfl, rfl, rfl⟩ := h; exact ⟨rfl, hp⟩
  | ret => intro st e st' p ors ors' acc acc' h hp; simp only [evCodeYO, Option.some.injEq, Prod.mk.injEq] at h; obtain ⟨rfl, rfl, rfl, rfl, rfl⟩ := h; exact ⟨rfl, hp⟩
  | exit id => intro st e st' p ors ors' acc acc' h hp; simp only [evCodeYO, Option.some.injEq, Prod.mk.injEq] at h; obtain ⟨rfl, rfl, rfl, rfl, rfl⟩ := h; exact ⟨rfl, hp⟩
  | _ => intro st e st' p ors ors' acc acc' h hp; simp only [evCodeYO] at h; cases h
end

theorem shl_op {C : Cfg} {t : TypeId} {cst : Bool} {nxt : Nat} {a b : Int} (h : 0 ≤ b) : justO nxt (binD C t cst .shl (I a) (I b)) = Option.some ⟨I (w64 (a * 2 ^ (min b.toNat 64))), [], [], nxt⟩ := by
  have hb : IntKind.i64.bits = 64 := rfl
  simp [binD, binVal, binInt, shiftOp, justO, hb, show ¬ b < 0 by omega]
theorem shr_op {C : Cfg} {t : TypeId} {cst : Bool} {nxt : Nat} {a b : Int} (h : 0 ≤ b) : justO nxt (binD C t cst .shr (I a) (I b)) = Option.some ⟨I (a.fdiv (2 ^ (min b.toNat 64))), [], [], nxt⟩ := by
  have hb : IntKind.i64.bits = 64 := rfl
  simp [binD, binVal, binInt, shiftOp, justO, hb, show ¬ b < 0 by omega]
/-! ### a function that is ranged over; its loops -/
def iterO (C : Cfg) (S : Sm) (R : Rnd) (K : FuncId) (args : List D) (objs : List (Nat × Ob)) (nxt : Nat) (ors : List Ora) : Option (List (Nat × Ob) × Nat × Option Code × Prop) := match C.fn K with
  | some fn => match fn.body with
    | some c => match evCodeYO C S R K c ⟨max fn.ntmps args.length, number 0 args, objs, nxt, nxt⟩ ors [] with
      | some (e, st, p, [], acc) => match e with
        | .normal => match finY C fn st p with
          | some (o, n, p) => some (o, n, p, allP acc)
          | none => none
        | .ret => match finY C fn st p with
          | some (o, n, p) => some (o, n, p, allP acc)
          | none => none
        | _ => none
      | _ => none
    | none => none
  | none => none
section
variable {C : Cfg} {R : Rnd} {K : FuncId} {args : List D} {objs objs' : List (Nat × Ob)} {nxt nxt' : Nat} {p : Option Code} {P : Prop}
theorem po_iter (ors : List Ora) (hp : P) (h : iterO C (lim C) R K args objs nxt ors = some (objs', nxt', p, P)) : (lim C).iter R K args objs nxt = some (objs', nxt', p) := by
  refine iter_of ?_
  unfold iterO at h
  unfold runIter
  split at h
  · rename_i fn hfn
    simp only [hfn]
    split at h
    · rename_i c hc
      simp only [hc]
      split at h
      · rename_i e st p1 acc1 hev
        split at h
        · split at h
          · rename_i hfin
            cases h
            rw [(evCodeYO_sound _ _ _ _ _ _ _ _ _ hev hp).1]
            exact hfin
          · cases h
        · split at h
          · rename_i hfin
            cases h
            rw [(evCodeYO_sound _ _ _ _ _ _ _ _ _ hev hp).1]
            exact hfin
          · cases h
        · cases h
      · cases h
    · cases h
  · cases h
end
/-- A round of a loop that goes on, up to the loop's head; short of the head. -/
def turnYO (C : Cfg) (S : Sm) (R : Rnd) (f : FuncId) (a : Code) (st : St) (ors : List Ora) : Option (St × Prop) := match evCodeYO C S R f a st ors [] with
  | some (.normal, st', none, [], acc) => match gc (C.keep f (firstRegion a)) st' with
    | some st1 => some (st1, allP acc)
    | none => none
  | _ => none
def roundYO (C : Cfg) (S : Sm) (R : Rnd) (f : FuncId) (a : Code) (st : St) (ors : List Ora) : Option (St × Prop) := match evCodeYO C S R f a st ors [] with
  | some (.normal, st', none, [], acc) => some (st', allP acc)
  | _ => none
/-- A round that leaves the loop. -/
def lastYO (C : Cfg) (S : Sm) (R : Rnd) (f : FuncId) (a : Code) (st : St) (ors : List Ora) : Option (Exit × St × Option Code × Prop) := match evCodeYO C S R f a st ors [] with
  | some (e, st', p, [], acc) => match isNormal e with
    | true => none
    | false => some (e, st', p, allP acc)
  | _ => none
section
variable {C : Cfg} {R : Rnd} {f : FuncId} {a : Code} {st st1 st' : St} {e : Exit} {p : Option Code} {q : Exit × St × Option Code} {P : Prop}
theorem po_turnY (ors : List Ora) (hp : P) (hl : (lim C).loopY R f a st1 = some q) (h : turnYO C (lim C) R f a st ors = some (st1, P)) : (lim C).loopY R f a st = some q := by
  refine loopY_of ?_
  unfold turnYO at h
  unfold runLoopY
  split at h
  · rename_i st2 acc2 hev
    split at h
    · rename_i st3 hg
      cases h
      rw [(evCodeYO_sound _ _ _ _ _ _ _ _ _ hev hp).1]
      simp only [hg, hl]
    · cases h
  · cases h
theorem po_turnY' {ks : List Nat} (ors : List Ora) (hp : P) (hk : C.keep f (firstRegion a) = ks) (hg : gc ks st' = some st1) (hl : (lim C).loopY R f a st1 = some q) (h : roundYO C (lim C) R f a st ors = some (st', P)) : (lim C).loopY R f a st = some q := by
  refine loopY_of ?_
  unfold roundYO at h
  unfold runLoopY
  split at h
  · rename_i st2 acc2 hev
    cases h
    rw [(evCodeYO_sound _ _ _ _ _ _ _ _ _ hev hp).1]
    simp only [hk, hg, hl]
  · cases h
theorem po_lastY (ors : List Ora) (hp : P) (h : lastYO C (lim C) R f a st ors = some (e, st', p, P)) : (lim C).loopY R f a st = some (e, st', p) := by
  refine loopY_of ?_
  unfold lastYO at h
  unfold runLoopY
  split at h
  · rename_i e1 st2 p2 acc2 hev
    split at h
    · cases h
    · rename_i hn
      cases h
      rw [(evCodeYO_sound _ _ _ _ _ _ _ _ _ hev hp).1]
      cases e <;> first | rfl | (simp [isNormal] at hn)
  · cases h
theorem po_lrY {S : Sm} {α : Type} {L v : α} {q : α → Exit × St × Option Code} (h : S.loopY R f a st = some (q L)) (e : L = v) : S.loopY R f a st = some (q v) := by rw [← e]; exact h
end
end Go.VS

/-
  VS, part V4: a way through code, in pieces. (A text of this claim's own; nothing of it is trusted.)
-/
namespace Go.VS
open Go
section
variable {C : Cfg} {K : FuncId} {args : List D} {c b : Code} {st st' : St} {d : D} {P : Prop}
end
end Go.VS

/-
  VS, part V5: bits; what all of some numbers fulfil. (A text of this claim's own; nothing of it is trusted.)
-/
namespace Go.VS
open Go
theorem and_one {x : Nat} (h : x < 18446744073709551616) : (BitVec.ofInt 64 ((x : Nat) : Int) &&& BitVec.ofInt 64 1).toNat = x % 2 := by
  rw [BitVec.toNat_and]
  have h1 : (BitVec.ofInt 64 ((x : Nat) : Int)).toNat = x := by
    rw [BitVec.toNat_ofInt]
    omega
  have h2 : (BitVec.ofInt 64 1).toNat = 1 := by rfl
  rw [h1, h2, Nat.and_one_is_mod]
theorem bt_eq {m k : Nat} (hm : m < 4611686018427387904) (hk : k ≤ 64) : ((w64 ((BitVec.ofInt 64 ((((m : Nat) : Int)).fdiv (2 ^ (min (((k : Nat) : Int)).toNat 64))) &&& BitVec.ofInt 64 1).toNat : Int)) == 1) = m.testBit k := by
  have e1 : (((m : Nat) : Int)).fdiv (2 ^ (min (((k : Nat) : Int)).toNat 64)) = (((m / 2 ^ k : Nat)) : Int) := by
    rw [Int.toNat_natCast, Nat.min_eq_left hk, show (2 : Int) ^ k = ((2 ^ k : Nat) : Int) by simp, Int.fdiv_eq_ediv_of_nonneg _ (Int.natCast_nonneg _), Int.natCast_ediv]
  have e2 : m / 2 ^ k < 18446744073709551616 := Nat.lt_of_le_of_lt (Nat.div_le_self _ _) (by omega)
  have e3 := and_one e2
  rw [e1, e3, w64_eq (by omega) (by omega), Nat.testBit_eq_decide_div_mod_eq]
  rcases Nat.mod_two_eq_zero_or_one (m / 2 ^ k) with h | h <;> rw [h] <;> rfl
theorem shl_one {n : Int} (h0 : 0 ≤ n) (h1 : n ≤ 12) : w64 (1 * 2 ^ (min n.toNat 64)) = ((2 ^ n.toNat : Nat) : Int) := by
  have : n = 0 ∨ n = 1 ∨ n = 2 ∨ n = 3 ∨ n = 4 ∨ n = 5 ∨ n = 6 ∨ n = 7 ∨ n = 8 ∨ n = 9 ∨ n = 10 ∨ n = 11 ∨ n = 12 := by omega
  rcases this with rfl | rfl | rfl | rfl | rfl | rfl | rfl | rfl | rfl | rfl | rfl | rfl | rfl <;> rfl
theorem no_bits {m n : Nat} (h : m < 2 ^ n) (hb : ∀ k, k < n → m.testBit k = false) : m = 0 := by
  refine Nat.eq_of_testBit_eq fun k => ?_
  rw [Nat.zero_testBit]
  by_cases hk : k < n
  · exact hb k hk
  · exact Nat.testBit_lt_two_pow (Nat.lt_of_lt_of_le h (Nat.pow_le_pow_right (by omega) (by omega)))
theorem zx {P : Int → Prop} {l : List Int} {x : Int} (h : ∀ i ∈ l, P i) (hx : P x) : ∀ i ∈ l ++ [x], P i := by
  intro i hi
  rcases List.mem_append.1 hi with hi | hi
  · exact h i hi
  · simp only [List.mem_singleton] at hi
    subst hi; exact hx
theorem zy {P : Int → Prop} {x : Int} (hx : P x) : ∀ i ∈ [x], P i := by
  intro i hi
  simp only [List.mem_singleton] at hi
  subst hi; exact hx
theorem GS.nil_len {α : Type} : (GS.nil : GS α).l.length = 0 := rfl
theorem cond_t {α : Sort _} {b : Bool} {x y : α} (h : b = true) : cond b x y = x := by rw [h]; rfl
theorem cond_f {α : Sort _} {b : Bool} {x y : α} (h : b = false) : cond b x y = y := by rw [h]; rfl
theorem not_op {nxt : Nat} {v b : Bool} (h : v = b) : justO nxt (unD .not (B v)) = Option.some ⟨B (!b), [], [], nxt⟩ := by subst h; rfl
theorem ids_yld {f k : Nat} : idsD (f + 1) (.yld k) = Option.some [k] := rfl
theorem ren_yld {ρ : Nat → Option Nat} {f k : Nat} : renD ρ (f + 1) (.yld k) = (match ρ k with | Option.some o => .yld o | none => .unk) := rfl
attribute [go_sem] ids_yld ren_yld
theorem zz {P : Int → Prop} : ∀ i ∈ (GS.nil : GS Int).l, P i := fun i hi => (by cases hi)
end Go.VS

/-
  Orders: lists of items, by bits; the least one that fulfils something. (A text of this claim's own; nothing of it is trusted.)
-/
namespace Go.VS
set_option maxHeartbeats 0
def bitsFrom (m : Nat) : Nat → Nat → List Int
  | 0, _ => []
  | r + 1, i => bif m.testBit i then ((i : Nat) : Int) :: bitsFrom m r (i + 1) else bitsFrom m r (i + 1)
def chosen (n m : Nat) : List Int := bitsFrom m n 0
theorem inc_weak {p p' n : Int} {l : List Int} (h : inc p' n l) (hp : p ≤ p') : inc p n l := by
  cases l with
  | nil => trivial
  | cons x l => exact ⟨by have := h.1; omega, h.2.1, h.2.2.1, h.2.2.2⟩
theorem bits_inc (m : Nat) : ∀ (r i : Nat), inc ((i : Int) - 1) ((i + r : Nat) : Int) (bitsFrom m r i)
  | 0, _ => trivial
  | r + 1, i => by
    have ih := bits_inc m r (i + 1)
    rw [show ((i + 1 : Nat) : Int) - 1 = (i : Int) by omega, show i + 1 + r = i + (r + 1) by omega] at ih
    unfold bitsFrom
    cases m.testBit i with
    | true => exact ⟨by omega, by omega, by omega, ih⟩
    | false => exact inc_weak ih (by omega)
theorem chosen_inc (n m : Nat) : inc (-1) (n : Int) (chosen n m) := by
  have := bits_inc m n 0
  rwa [show 0 + n = n by omega] at this
theorem bits_ne {m n : Nat} (h : m < 2 ^ n) (h1 : 1 ≤ m) : chosen n m ≠ [] := by
  have key : ∀ (r i : Nat), bitsFrom m r i = [] → ∀ k, i ≤ k → k < i + r → m.testBit k = false := by
    intro r
    induction r with
    | zero => intro i _ k _ _; omega
    | succ r ih =>
      intro i hb k hk hk'
      unfold bitsFrom at hb
      cases hc : m.testBit i with
      | true => rw [hc] at hb; cases hb
      | false =>
        rw [hc] at hb
        by_cases hki : k = i
        · rw [hki]; exact hc
        · exact ih (i + 1) hb k (by omega) (by omega)
  intro hb
  have := no_bits h fun k hk => key n 0 hb k (by omega) (by omega)
  omega
/-! ### the least one -/
def stp (P : List Int → Bool) (lt : List Int → List Int → Bool) (b : Option (List Int)) (l : List Int) : Option (List Int) := match b with
  | none => bif P l then some l else none
  | some c => bif lt l c then (bif P l then some l else some c) else some c
def goC (P : List Int → Bool) (lt : List Int → List Int → Bool) (n : Nat) : Nat → Nat → Option (List Int) → Option (List Int)
  | 0, _, b => b
  | r + 1, i, b => goC P lt n r (i + 1) (stp P lt b (chosen n i))
section
variable {P : List Int → Bool} {lt : List Int → List Int → Bool} {n : Nat}
theorem goC_keep : ∀ (r i : Nat) (c : List Int), ∃ w, goC P lt n r i (some c) = some w
  | 0, _, c => ⟨c, rfl⟩
  | r + 1, i, c => by
    unfold goC stp
    dsimp only
    cases lt (chosen n i) c <;> cases P (chosen n i) <;> exact goC_keep r (i + 1) _
theorem goC_some : ∀ (r i : Nat) (b : Option (List Int)) (w : List Int), goC P lt n r i b = some w → b = some w ∨ ∃ k, i ≤ k ∧ k < i + r ∧ w = chosen n k ∧ P w = true
  | 0, _, _, _, h => .inl h
  | r + 1, i, b, w, h => by
    unfold goC at h
    rcases goC_some r (i + 1) _ w h with h1 | ⟨k, h1, h2, h3⟩
    · unfold stp at h1
      cases b with
      | none =>
        cases hP : P (chosen n i) with
        | true => simp only [hP, cond_true, Option.some.injEq] at h1; subst h1; exact .inr ⟨i, Nat.le_refl _, by omega, rfl, hP⟩
        | false => simp only [hP, cond_false] at h1; cases h1
      | some c =>
        cases hl : lt (chosen n i) c with
        | false => simp only [hl, cond_false] at h1; exact .inl h1
        | true =>
          cases hP : P (chosen n i) with
          | true => simp only [hl, hP, cond_true, Option.some.injEq] at h1; subst h1; exact .inr ⟨i, Nat.le_refl _, by omega, rfl, hP⟩
          | false => simp only [hl, hP, cond_true, cond_false] at h1; exact .inl h1
    · exact .inr ⟨k, by omega, by omega, h3⟩
theorem goC_any : ∀ (r i : Nat) (b : Option (List Int)) (k : Nat), i ≤ k → k < i + r → P (chosen n k) = true → ∃ w, goC P lt n r i b = some w
  | 0, _, _, _, _, _, _ => by omega
  | r + 1, i, b, k, h1, h2, h3 => by
    unfold goC
    by_cases hk : k = i
    · subst hk
      cases b with
      | none => unfold stp; simp only [h3, cond_true]; exact goC_keep _ _ _
      | some c => unfold stp; dsimp only; cases lt (chosen n k) c <;> cases P (chosen n k) <;> exact goC_keep _ _ _
    · exact goC_any r (i + 1) _ k (by omega) (by omega) h3
end
end Go.VS

namespace Go.VS
open Go Go.Proofs
set_option maxHeartbeats 0
set_option linter.unusedSimpArgs false
set_option linter.unusedVariables false
noncomputable def lp8_2 : Code := subC [1, 0, 1, 0, 0] (bodyC Tryz.f8)

inductive LR_l_few_2 where
  | x0
  | x1 (i2 : Nat) (x2 : GS Int)
instance : Inhabited LR_l_few_2 := ⟨.x0⟩
def l_few_2 : List (GS Int) → Nat → LR_l_few_2
  | [], i2 => .x0
  | x2 :: rest2, i2 =>
    bif decide (((x2.l.length : Nat) : Int) > 40) then
      .x1 i2 x2
    else
      l_few_2 rest2 (i2 + 1)
def lr_l_few_2 (e : S_Estate) (l : GS (GS Int)) : LR_l_few_2 → Exit × St
  | .x0 => ((.exit 0), ⟨21, [(10, B false), (2, .lref 0 0 3 0), (7, .sl l.nl (l.l.map (GS.D I 1)) (zsl l.nl 1) none), (8, I ((l.l.length : Nat) : Int)), (9, I ((l.l.length : Nat) : Int))], [(0, ⟨[.agg [.sl e.items.nl (e.items.l.map S_Item.D) (zsl e.items.nl 4) none, I e.whole.lo, I e.whole.hi]], 3, false⟩)], 1, 0⟩)
  | .x1 i2 x2 => (.ret, ⟨21, [(4, B false), (15, B true), (14, I ((x2.l.length : Nat) : Int)), (13, .sl x2.nl (x2.l.map I) (zsl x2.nl 1) none), (6, .sl x2.nl (x2.l.map I) (zsl x2.nl 1) none), (12, .sl x2.nl (x2.l.map I) (zsl x2.nl 1) none), (11, .ptr (.sl x2.nl (x2.l.map I) (zsl x2.nl 1) none)), (10, B true), (2, .lref 0 0 3 0), (7, .sl l.nl (l.l.map (GS.D I 1)) (zsl l.nl 1) none), (8, I ((l.l.length : Nat) : Int)), (9, I ((i2 : Nat) : Int))], [(0, ⟨[.agg [.sl e.items.nl (e.items.l.map S_Item.D) (zsl e.items.nl 4) none, I e.whole.lo, I e.whole.hi]], 3, false⟩)], 1, 0⟩)
theorem lp_l_few_2 (e : S_Estate) (l : GS (GS Int)) : ∀ (rest2 : List (GS Int)) (i2 : Nat) (hd2 : l.l.drop i2 = rest2) (hi2 : i2 ≤ l.l.length) (hL2 : l.l.length ≤ 9223372036854775807), (lim cfg).loop 8 lp8_2 ⟨21, [(2, .lref 0 0 3 0), (7, .sl l.nl (l.l.map (GS.D I 1)) (zsl l.nl 1) none), (8, I ((l.l.length : Nat) : Int)), (9, I ((i2 : Nat) : Int))], [(0, ⟨[.agg [.sl e.items.nl (e.items.l.map S_Item.D) (zsl e.items.nl 4) none, I e.whole.lo, I e.whole.hi]], 3, false⟩)], 1, 0⟩ = some (lr_l_few_2 e l (l_few_2 rest2 i2)) := by
  intro rest2
  induction rest2 with
  | nil =>
    intro i2 hd2 hi2 hL2
    unfold l_few_2
    obtain rfl : i2 = l.l.length := nil_eq hd2 hi2
    exact zO [.dec false] (And.intro (lt_no hd2) trivial) (by kernel_rfl)
  | cons x2 rest2 ih =>
    intro i2 hd2 hi2 hL2
    have hlt2 := zr hd2
    unfold l_few_2
    cases h2 : decide (((x2.l.length : Nat) : Int) > 40) with
    | true =>
      have g2 := of_decide_eq_true h2
      exact zO [.dec true, .el (.sl x2.nl (x2.l.map I) (zsl x2.nl 1) none), .rw 14 (I ((x2.l.length : Nat) : Int)), .dec true] (And.intro h2 (And.intro (zh I x2) (And.intro (el_at (s := l) (f := (GS.D I 1)) (k := 1) hd2) (And.intro (lt_at hd2) trivial)))) (by kernel_rfl)
    | false =>
      have g2 := of_decide_eq_false h2
      exact po_turn [.dec true, .el (.sl x2.nl (x2.l.map I) (zsl x2.nl 1) none), .rw 14 (I ((x2.l.length : Nat) : Int)), .dec false, .rw 16 (I ((i2 + 1 : Nat) : Int))] (And.intro (yb (i := i2) (by have := zr hd2; omega)) (And.intro h2 (And.intro (zh I x2) (And.intro (el_at (s := l) (f := (GS.D I 1)) (k := 1) hd2) (And.intro (lt_at hd2) trivial))))) (ih (i2 + 1) (zJ hd2) (zr hd2) (by first | assumption | omega)) (by kernel_rfl)

def l_few (e : S_Estate) (l : GS (GS Int)) : Bool :=
  match l_few_2 l.l 0 with
  | .x0 =>
    bif decide (((e.items.l.length : Nat) : Int) ≤ 40) then
      true
    else
      false
  | .x1 i2 x2 =>
    false

def sd73 (e : S_Estate) (l : GS (GS Int)) : St := ⟨21, [(10, B false), (2, .lref 0 0 3 0), (7, .sl l.nl (l.l.map (GS.D I 1)) (zsl l.nl 1) none), (8, I ((l.l.length : Nat) : Int)), (9, I ((l.l.length : Nat) : Int))], [(0, ⟨[.agg [.sl e.items.nl (e.items.l.map S_Item.D) (zsl e.items.nl 4) none, I e.whole.lo, I e.whole.hi]], 3, false⟩)], 1, 0⟩

def sd74 (e : S_Estate) (l : GS (GS Int)) (i2 : Nat) (x2 : GS Int) : St := ⟨21, [(4, B false), (15, B true), (14, I ((x2.l.length : Nat) : Int)), (13, .sl x2.nl (x2.l.map I) (zsl x2.nl 1) none), (6, .sl x2.nl (x2.l.map I) (zsl x2.nl 1) none), (12, .sl x2.nl (x2.l.map I) (zsl x2.nl 1) none), (11, .ptr (.sl x2.nl (x2.l.map I) (zsl x2.nl 1) none)), (10, B true), (2, .lref 0 0 3 0), (7, .sl l.nl (l.l.map (GS.D I 1)) (zsl l.nl 1) none), (8, I ((l.l.length : Nat) : Int)), (9, I ((i2 : Nat) : Int))], [(0, ⟨[.agg [.sl e.items.nl (e.items.l.map S_Item.D) (zsl e.items.nl 4) none, I e.whole.lo, I e.whole.hi]], 3, false⟩)], 1, 0⟩

theorem T_l_few (e : S_Estate) (l : GS (GS Int)) (hL_l : l.l.length ≤ 9223372036854775807) : (lim cfg).pure 8 [S_Estate.D e, GS.D (GS.D I 1) 1 l] = some (B (l_few e l)) := by
  unfold l_few
  cases h3 : l_few_2 l.l 0 with
  | x0 =>
    try dsimp only
    have p1 := (po_lr (q := lr_l_few_2 e l) (lp_l_few_2 e l l.l 0 (List.drop_zero) (Nat.zero_le _) (by first | assumption | omega)) h3)
    cases h4 : decide (((e.items.l.length : Nat) : Int) ≤ 40) with
    | true =>
      have g4 := of_decide_eq_true h4
      exact za [.rw 8 (I ((l.l.length : Nat) : Int)), .loop (.exit 0) (sd73 e l), .rw 19 (I ((e.items.l.length : Nat) : Int)), .dec true] (And.intro h4 (And.intro (zh S_Item.D e.items) (And.intro p1 (And.intro (zh (GS.D I 1) l) trivial)))) (by kernel_rfl)
    | false =>
      have g4 := of_decide_eq_false h4
      exact za [.rw 8 (I ((l.l.length : Nat) : Int)), .loop (.exit 0) (sd73 e l), .rw 19 (I ((e.items.l.length : Nat) : Int)), .dec false] (And.intro h4 (And.intro (zh S_Item.D e.items) (And.intro p1 (And.intro (zh (GS.D I 1) l) trivial)))) (by kernel_rfl)
  | x1 i2 x2 =>
    try dsimp only
    exact za [.rw 8 (I ((l.l.length : Nat) : Int)), .loop .ret (sd74 e l i2 x2)] (And.intro (po_lr (q := lr_l_few_2 e l) (lp_l_few_2 e l l.l 0 (List.drop_zero) (Nat.zero_le _) (by first | assumption | omega)) h3) (And.intro (zh (GS.D I 1) l) trivial)) (by kernel_rfl)

theorem few_len {e : S_Estate} {l : GS (GS Int)} (h : l_few e l = true) : e.items.l.length ≤ 40 ∧ ∀ x ∈ l.l, x.l.length ≤ 40 := by
  have key : ∀ (l : List (GS Int)) (i : Nat), l_few_2 l i = .x0 → ∀ x ∈ l, x.l.length ≤ 40 := by
    intro l
    induction l with
    | nil => intro i _ x hx; cases hx
    | cons y l ih =>
      intro i h x hx
      unfold l_few_2 at h
      cases hc : decide (((y.l.length : Nat) : Int) > 40) with
      | true => rw [hc] at h; cases h
      | false =>
        rw [hc] at h
        have := of_decide_eq_false hc
        rcases List.mem_cons.1 hx with rfl | hx
        · omega
        · exact ih _ h x hx
  unfold l_few at h
  cases hc : l_few_2 l.l 0 with
  | x1 i x => rw [hc] at h; cases h
  | x0 =>
    rw [hc] at h
    refine ⟨?_, key _ _ hc⟩
    cases hd : decide (((e.items.l.length : Nat) : Int) ≤ 40) with
    | true => have := of_decide_eq_true hd; omega
    | false => simp only [hd] at h; cases h
theorem few1 {e : S_Estate} {x : GS Int} (h : l_few e (GS.some [x]) = true) : e.items.l.length ≤ 40 ∧ x.l.length ≤ 40 := ⟨(few_len h).1, (few_len h).2 x (by simp [GS.some])⟩
theorem zo {e : S_Estate} {items : GS Int} : (orders_Attain e items).1.l.length ≤ items.l.length := by
  unfold orders_Attain
  cases (zB e items != 0) with
  | true => simp [GS.nil]
  | false => simp only [cond_false, shown_len]; exact Nat.le_refl _
theorem zp {e : S_Estate} : (orders_Gains e).1.l.length ≤ e.items.l.length := by
  unfold orders_Gains
  cases (zN e != 0) with
  | true => simp [GS.nil]
  | false => simp only [cond_false, z6, z5]; omega
end Go.VS

namespace Go.VS
open Go Go.Proofs
set_option maxHeartbeats 0
set_option linter.unusedSimpArgs false
set_option linter.unusedVariables false
noncomputable def lp100_3 : Code := subC [1, 1, 0, 1, 0, 0] (bodyC Tryz.f100)

def or3 (x0 x1 x2 : Int) : Int := bif (x0 != 0) then x0 else bif (x1 != 0) then x1 else bif (x2 != 0) then x2 else 0

def sd20077 (x0 : Int) (x1 : Int) (x2 : Int) : St := ⟨18, [(2, I x0), (15, I x0), (14, B true), (13, I 0), (12, I x0), (5, I x0), (11, I x0), (10, .ptr (I x0)), (9, B true), (3, I 0), (6, .sl false [I x0, I x1, I x2] 1 none), (7, I 3), (8, I 0)], [], 0, 0⟩

def sd20078 (x0 : Int) (x1 : Int) (x2 : Int) : St := ⟨18, [(2, I x1), (15, I x1), (14, B true), (13, I 0), (12, I x1), (5, I x1), (11, I x1), (10, .ptr (I x1)), (9, B true), (3, I 0), (6, .sl false [I x0, I x1, I x2] 1 none), (7, I 3), (8, I 1)], [], 0, 0⟩

def sd20079 (x0 : Int) (x1 : Int) (x2 : Int) : St := ⟨18, [(2, I x2), (15, I x2), (14, B true), (13, I 0), (12, I x2), (5, I x2), (11, I x2), (10, .ptr (I x2)), (9, B true), (3, I 0), (6, .sl false [I x0, I x1, I x2] 1 none), (7, I 3), (8, I 2)], [], 0, 0⟩

theorem T_or3 (x0 x1 x2 : Int) : (lim cfg).pure 100 [.sl false [I x0, I x1, I x2] 1 none] = some (I (or3 x0 x1 x2)) := by
  unfold or3
  cases h1 : (x0 != 0) with
  | true =>
    have g1 := bne_true h1
    exact za [.loop .ret (sd20077 x0 x1 x2)] (And.intro (show (lim cfg).loop 100 lp100_3 ⟨18, [(3, I 0), (6, .sl false [I x0, I x1, I x2] 1 none), (7, I 3), (8, I 0)], [], 0, 0⟩ = some (.ret, (sd20077 x0 x1 x2)) from (zO [.dec true, .dec true] (And.intro h1 (And.intro (Eq.refl true) trivial)) (by kernel_rfl))) trivial) (by kernel_rfl)
  | false =>
    have g1 := bne_false h1
    have l1 := (show ∀ q, (lim cfg).loop 100 lp100_3 ⟨18, [(3, I 0), (6, .sl false [I x0, I x1, I x2] 1 none), (7, I 3), (8, I 1)], [], 0, 0⟩ = some q → (lim cfg).loop 100 lp100_3 ⟨18, [(3, I 0), (6, .sl false [I x0, I x1, I x2] 1 none), (7, I 3), (8, I 0)], [], 0, 0⟩ = some q from fun q hq => po_turn (st1 := ⟨18, [(3, I 0), (6, .sl false [I x0, I x1, I x2] 1 none), (7, I 3), (8, I 1)], [], 0, 0⟩) [.dec true, .dec false] (And.intro h1 (And.intro (Eq.refl true) trivial)) hq (by kernel_rfl))
    cases h2 : (x1 != 0) with
    | true =>
      have g2 := bne_true h2
      exact za [.loop .ret (sd20078 x0 x1 x2)] (And.intro (show (lim cfg).loop 100 lp100_3 ⟨18, [(3, I 0), (6, .sl false [I x0, I x1, I x2] 1 none), (7, I 3), (8, I 0)], [], 0, 0⟩ = some (.ret, (sd20078 x0 x1 x2)) from (l1 _ (zO [.dec true, .dec true] (And.intro h2 (And.intro (Eq.refl true) trivial)) (by kernel_rfl)))) trivial) (by kernel_rfl)
    | false =>
      have g2 := bne_false h2
      have l2 := (show ∀ q, (lim cfg).loop 100 lp100_3 ⟨18, [(3, I 0), (6, .sl false [I x0, I x1, I x2] 1 none), (7, I 3), (8, I 2)], [], 0, 0⟩ = some q → (lim cfg).loop 100 lp100_3 ⟨18, [(3, I 0), (6, .sl false [I x0, I x1, I x2] 1 none), (7, I 3), (8, I 1)], [], 0, 0⟩ = some q from fun q hq => po_turn (st1 := ⟨18, [(3, I 0), (6, .sl false [I x0, I x1, I x2] 1 none), (7, I 3), (8, I 2)], [], 0, 0⟩) [.dec true, .dec false] (And.intro h2 (And.intro (Eq.refl true) trivial)) hq (by kernel_rfl))
      cases h3 : (x2 != 0) with
      | true =>
        have g3 := bne_true h3
        exact za [.loop .ret (sd20079 x0 x1 x2)] (And.intro (show (lim cfg).loop 100 lp100_3 ⟨18, [(3, I 0), (6, .sl false [I x0, I x1, I x2] 1 none), (7, I 3), (8, I 0)], [], 0, 0⟩ = some (.ret, (sd20079 x0 x1 x2)) from (l1 _ (l2 _ (zO [.dec true, .dec true] (And.intro h3 (And.intro (Eq.refl true) trivial)) (by kernel_rfl))))) trivial) (by kernel_rfl)
      | false =>
        have g3 := bne_false h3
        have l3 := (show ∀ q, (lim cfg).loop 100 lp100_3 ⟨18, [(3, I 0), (6, .sl false [I x0, I x1, I x2] 1 none), (7, I 3), (8, I 3)], [], 0, 0⟩ = some q → (lim cfg).loop 100 lp100_3 ⟨18, [(3, I 0), (6, .sl false [I x0, I x1, I x2] 1 none), (7, I 3), (8, I 2)], [], 0, 0⟩ = some q from fun q hq => po_turn (st1 := ⟨18, [(3, I 0), (6, .sl false [I x0, I x1, I x2] 1 none), (7, I 3), (8, I 3)], [], 0, 0⟩) [.dec true, .dec false] (And.intro h3 (And.intro (Eq.refl true) trivial)) hq (by kernel_rfl))
        exact za [.loop (.exit 0) ⟨18, [(9, B false), (3, I 0), (6, .sl false [I x0, I x1, I x2] 1 none), (7, I 3), (8, I 3)], [], 0, 0⟩] (And.intro (show (lim cfg).loop 100 lp100_3 ⟨18, [(3, I 0), (6, .sl false [I x0, I x1, I x2] 1 none), (7, I 3), (8, I 0)], [], 0, 0⟩ = some ((.exit 0), ⟨18, [(9, B false), (3, I 0), (6, .sl false [I x0, I x1, I x2] 1 none), (7, I 3), (8, I 3)], [], 0, 0⟩) from (l1 _ (l2 _ (l3 _ (zO [.dec false] (And.intro (Eq.refl false) trivial) (by kernel_rfl)))))) trivial) (by kernel_rfl)

def zH (x : Int) (y : Int) : Int :=
  bif (cmp_isNaN x) then
    bif (cmp_isNaN y) then
      0
    else
      (-1)
  else
    bif (cmp_isNaN y) then
      1
    else
      bif decide (x < y) then
        (-1)
      else
        bif decide (x > y) then
          1
        else
          0

theorem T_cmp_Compare (x : Int) (y : Int) : (lim cfg).pure 101 [I x, I y] = some (I (zH x y)) := by
  unfold zH
  cases h1 : (cmp_isNaN x) with
  | true =>
    cases h2 : (cmp_isNaN y) with
    | true =>
      exact za [.pure (B (cmp_isNaN x)), .dec true, .pure (B (cmp_isNaN y)), .dec true] (And.intro h2 (And.intro (T_cmp_isNaN y) (And.intro h1 (And.intro (T_cmp_isNaN x) trivial)))) (by kernel_rfl)
    | false =>
      exact za [.pure (B (cmp_isNaN x)), .dec true, .pure (B (cmp_isNaN y)), .dec false] (And.intro h2 (And.intro (T_cmp_isNaN y) (And.intro h1 (And.intro (T_cmp_isNaN x) trivial)))) (by kernel_rfl)
  | false =>
    cases h3 : (cmp_isNaN y) with
    | true =>
      exact za [.pure (B (cmp_isNaN x)), .dec false, .pure (B (cmp_isNaN y)), .dec true] (And.intro h3 (And.intro (T_cmp_isNaN y) (And.intro h1 (And.intro (T_cmp_isNaN x) trivial)))) (by kernel_rfl)
    | false =>
      cases h4 : decide (x < y) with
      | true =>
        have g4 := of_decide_eq_true h4
        exact za [.pure (B (cmp_isNaN x)), .dec false, .pure (B (cmp_isNaN y)), .dec false, .dec true] (And.intro h4 (And.intro h3 (And.intro (T_cmp_isNaN y) (And.intro h1 (And.intro (T_cmp_isNaN x) trivial))))) (by kernel_rfl)
      | false =>
        have g4 := of_decide_eq_false h4
        cases h5 : decide (x > y) with
        | true =>
          have g5 := of_decide_eq_true h5
          exact za [.pure (B (cmp_isNaN x)), .dec false, .pure (B (cmp_isNaN y)), .dec false, .dec false, .dec true] (And.intro h5 (And.intro h4 (And.intro h3 (And.intro (T_cmp_isNaN y) (And.intro h1 (And.intro (T_cmp_isNaN x) trivial)))))) (by kernel_rfl)
        | false =>
          have g5 := of_decide_eq_false h5
          exact za [.pure (B (cmp_isNaN x)), .dec false, .pure (B (cmp_isNaN y)), .dec false, .dec false, .dec false] (And.intro h5 (And.intro h4 (And.intro h3 (And.intro (T_cmp_isNaN y) (And.intro h1 (And.intro (T_cmp_isNaN x) trivial)))))) (by kernel_rfl)

noncomputable def lp102_2 : Code := subC [1, 0, 1, 0, 0] (bodyC Tryz.f102)

inductive LR_slices_Compare_2 where
  | x0
  | x1 (i2 : Nat) (x2 : Int)
  | x2 (i2 : Nat) (x2 : Int)
instance : Inhabited LR_slices_Compare_2 := ⟨.x0⟩
def zZ (b : GS Int) : List Int → Nat → LR_slices_Compare_2
  | [], i2 => .x0
  | x2 :: rest2, i2 =>
    bif decide (((i2 : Nat) : Int) ≥ ((b.l.length : Nat) : Int)) then
      .x1 i2 x2
    else
      bif ((zH x2 (GS.at b ((i2 : Nat) : Int))) != 0) then
        .x2 i2 x2
      else
        zZ b rest2 (i2 + 1)
def lr_slices_Compare_2 (a : GS Int) (b : GS Int) : LR_slices_Compare_2 → Exit × St
  | .x0 => ((.exit 0), ⟨36, [(12, B false), (0, .sl a.nl (a.l.map I) (zsl a.nl 1) none), (1, .sl b.nl (b.l.map I) (zsl b.nl 1) none), (9, .sl a.nl (a.l.map I) (zsl a.nl 1) none), (10, I ((a.l.length : Nat) : Int)), (11, I ((a.l.length : Nat) : Int))], [], 0, 0⟩)
  | .x1 i2 x2 => (.ret, ⟨36, [(4, I 1), (19, B true), (18, I ((b.l.length : Nat) : Int)), (17, .sl b.nl (b.l.map I) (zsl b.nl 1) none), (16, I ((i2 : Nat) : Int)), (6, I x2), (5, I ((i2 : Nat) : Int)), (15, I x2), (14, .ptr (I x2)), (13, I ((i2 : Nat) : Int)), (12, B true), (0, .sl a.nl (a.l.map I) (zsl a.nl 1) none), (1, .sl b.nl (b.l.map I) (zsl b.nl 1) none), (9, .sl a.nl (a.l.map I) (zsl a.nl 1) none), (10, I ((a.l.length : Nat) : Int)), (11, I ((i2 : Nat) : Int))], [], 0, 0⟩)
  | .x2 i2 x2 => (.ret, ⟨36, [(4, I (zH x2 (GS.at b ((i2 : Nat) : Int)))), (29, I (zH x2 (GS.at b ((i2 : Nat) : Int)))), (28, B true), (27, I (zH x2 (GS.at b ((i2 : Nat) : Int)))), (8, I (zH x2 (GS.at b ((i2 : Nat) : Int)))), (26, I (zH x2 (GS.at b ((i2 : Nat) : Int)))), (25, I (GS.at b ((i2 : Nat) : Int))), (24, I x2), (7, I (GS.at b ((i2 : Nat) : Int))), (23, I (GS.at b ((i2 : Nat) : Int))), (22, .ptr (I (GS.at b ((i2 : Nat) : Int)))), (21, I ((i2 : Nat) : Int)), (20, .sl b.nl (b.l.map I) (zsl b.nl 1) none), (19, B false), (18, I ((b.l.length : Nat) : Int)), (17, .sl b.nl (b.l.map I) (zsl b.nl 1) none), (16, I ((i2 : Nat) : Int)), (6, I x2), (5, I ((i2 : Nat) : Int)), (15, I x2), (14, .ptr (I x2)), (13, I ((i2 : Nat) : Int)), (12, B true), (0, .sl a.nl (a.l.map I) (zsl a.nl 1) none), (1, .sl b.nl (b.l.map I) (zsl b.nl 1) none), (9, .sl a.nl (a.l.map I) (zsl a.nl 1) none), (10, I ((a.l.length : Nat) : Int)), (11, I ((i2 : Nat) : Int))], [], 0, 0⟩)
def slices_Compare_2_l_o1 (b : GS Int) (i2 : Nat) (x2 : Int) : List Ora := [.dec true, .el (I x2), .rw 18 (I ((b.l.length : Nat) : Int)), .dec false, .el (I (GS.at b ((i2 : Nat) : Int))), .pure (I (zH x2 (GS.at b ((i2 : Nat) : Int))))]
theorem lp_slices_Compare_2 (a : GS Int) (b : GS Int) : ∀ (rest2 : List Int) (i2 : Nat) (hd2 : a.l.drop i2 = rest2) (hi2 : i2 ≤ a.l.length) (hL2 : a.l.length ≤ 9223372036854775807), (lim cfg).loop 102 lp102_2 ⟨36, [(0, .sl a.nl (a.l.map I) (zsl a.nl 1) none), (1, .sl b.nl (b.l.map I) (zsl b.nl 1) none), (9, .sl a.nl (a.l.map I) (zsl a.nl 1) none), (10, I ((a.l.length : Nat) : Int)), (11, I ((i2 : Nat) : Int))], [], 0, 0⟩ = some (lr_slices_Compare_2 a b (zZ b rest2 i2)) := by
  intro rest2
  induction rest2 with
  | nil =>
    intro i2 hd2 hi2 hL2
    unfold zZ
    obtain rfl : i2 = a.l.length := nil_eq hd2 hi2
    exact zO [.dec false] (And.intro (lt_no hd2) trivial) (by kernel_rfl)
  | cons x2 rest2 ih =>
    intro i2 hd2 hi2 hL2
    have hlt2 := zr hd2
    unfold zZ
    cases h3 : decide (((i2 : Nat) : Int) ≥ ((b.l.length : Nat) : Int)) with
    | true =>
      have g3 := of_decide_eq_true h3
      exact zO [.dec true, .el (I x2), .rw 18 (I ((b.l.length : Nat) : Int)), .dec true] (And.intro h3 (And.intro (zh I b) (And.intro (el_at (s := a) (f := I) (k := 1) hd2) (And.intro (lt_at hd2) trivial)))) (by kernel_rfl)
    | false =>
      have g3 := of_decide_eq_false h3
      have p1 := (el_in (s := b) (f := I) (k := 1) (i := ((i2 : Nat) : Int)) (by first | assumption | omega) (by first | assumption | omega))
      have p2 := (T_cmp_Compare x2 (GS.at b ((i2 : Nat) : Int)))
      cases h4 : ((zH x2 (GS.at b ((i2 : Nat) : Int))) != 0) with
      | true =>
        have g4 := bne_true h4
        exact zO ((slices_Compare_2_l_o1 b i2 x2) ++ [.dec true]) (And.intro h4 (And.intro p2 (And.intro p1 (And.intro h3 (And.intro (zh I b) (And.intro (el_at (s := a) (f := I) (k := 1) hd2) (And.intro (lt_at hd2) trivial))))))) (by kernel_rfl)
      | false =>
        have g4 := bne_false h4
        exact po_turn ((slices_Compare_2_l_o1 b i2 x2) ++ [.dec false, .rw 30 (I ((i2 + 1 : Nat) : Int))]) (And.intro (yb (i := i2) (by have := zr hd2; omega)) (And.intro h4 (And.intro p2 (And.intro p1 (And.intro h3 (And.intro (zh I b) (And.intro (el_at (s := a) (f := I) (k := 1) hd2) (And.intro (lt_at hd2) trivial)))))))) (ih (i2 + 1) (zJ hd2) (zr hd2) (by first | assumption | omega)) (by kernel_rfl)

def slices_Compare (a : GS Int) (b : GS Int) : Int :=
  match zZ b a.l 0 with
  | .x0 =>
    bif decide (((a.l.length : Nat) : Int) < ((b.l.length : Nat) : Int)) then
      (-1)
    else
      0
  | .x1 i2 x2 =>
    1
  | .x2 i2 x2 =>
    (zH x2 (GS.at b ((i2 : Nat) : Int)))

def sd20080 (a : GS Int) (b : GS Int) : St := ⟨36, [(12, B false), (0, .sl a.nl (a.l.map I) (zsl a.nl 1) none), (1, .sl b.nl (b.l.map I) (zsl b.nl 1) none), (9, .sl a.nl (a.l.map I) (zsl a.nl 1) none), (10, I ((a.l.length : Nat) : Int)), (11, I ((a.l.length : Nat) : Int))], [], 0, 0⟩

def slices_Compare_o1 (a : GS Int) (b : GS Int) : List Ora := [.rw 10 (I ((a.l.length : Nat) : Int)), .loop (.exit 0) (sd20080 a b), .rw 32 (I ((a.l.length : Nat) : Int)), .rw 34 (I ((b.l.length : Nat) : Int))]

def sd20081 (a : GS Int) (b : GS Int) (i2 : Nat) (x2 : Int) : St := ⟨36, [(4, I 1), (19, B true), (18, I ((b.l.length : Nat) : Int)), (17, .sl b.nl (b.l.map I) (zsl b.nl 1) none), (16, I ((i2 : Nat) : Int)), (6, I x2), (5, I ((i2 : Nat) : Int)), (15, I x2), (14, .ptr (I x2)), (13, I ((i2 : Nat) : Int)), (12, B true), (0, .sl a.nl (a.l.map I) (zsl a.nl 1) none), (1, .sl b.nl (b.l.map I) (zsl b.nl 1) none), (9, .sl a.nl (a.l.map I) (zsl a.nl 1) none), (10, I ((a.l.length : Nat) : Int)), (11, I ((i2 : Nat) : Int))], [], 0, 0⟩

def sd20082 (a : GS Int) (b : GS Int) (i2 : Nat) (x2 : Int) : St := ⟨36, [(4, I (zH x2 (GS.at b ((i2 : Nat) : Int)))), (29, I (zH x2 (GS.at b ((i2 : Nat) : Int)))), (28, B true), (27, I (zH x2 (GS.at b ((i2 : Nat) : Int)))), (8, I (zH x2 (GS.at b ((i2 : Nat) : Int)))), (26, I (zH x2 (GS.at b ((i2 : Nat) : Int)))), (25, I (GS.at b ((i2 : Nat) : Int))), (24, I x2), (7, I (GS.at b ((i2 : Nat) : Int))), (23, I (GS.at b ((i2 : Nat) : Int))), (22, .ptr (I (GS.at b ((i2 : Nat) : Int)))), (21, I ((i2 : Nat) : Int)), (20, .sl b.nl (b.l.map I) (zsl b.nl 1) none), (19, B false), (18, I ((b.l.length : Nat) : Int)), (17, .sl b.nl (b.l.map I) (zsl b.nl 1) none), (16, I ((i2 : Nat) : Int)), (6, I x2), (5, I ((i2 : Nat) : Int)), (15, I x2), (14, .ptr (I x2)), (13, I ((i2 : Nat) : Int)), (12, B true), (0, .sl a.nl (a.l.map I) (zsl a.nl 1) none), (1, .sl b.nl (b.l.map I) (zsl b.nl 1) none), (9, .sl a.nl (a.l.map I) (zsl a.nl 1) none), (10, I ((a.l.length : Nat) : Int)), (11, I ((i2 : Nat) : Int))], [], 0, 0⟩

theorem T_slices_Compare (a : GS Int) (b : GS Int) (hL_a : a.l.length ≤ 9223372036854775807) : (lim cfg).pure 102 [GS.D I 1 a, GS.D I 1 b] = some (I (slices_Compare a b)) := by
  unfold slices_Compare
  cases h5 : zZ b a.l 0 with
  | x0 =>
    try dsimp only
    have p1 := (po_lr (q := lr_slices_Compare_2 a b) (lp_slices_Compare_2 a b a.l 0 (List.drop_zero) (Nat.zero_le _) (by first | assumption | omega)) h5)
    cases h6 : decide (((a.l.length : Nat) : Int) < ((b.l.length : Nat) : Int)) with
    | true =>
      have g6 := of_decide_eq_true h6
      exact za ((slices_Compare_o1 a b) ++ [.dec true]) (And.intro h6 (And.intro (zh I b) (And.intro (zh I a) (And.intro p1 (And.intro (zh I a) trivial))))) (by kernel_rfl)
    | false =>
      have g6 := of_decide_eq_false h6
      exact za ((slices_Compare_o1 a b) ++ [.dec false]) (And.intro h6 (And.intro (zh I b) (And.intro (zh I a) (And.intro p1 (And.intro (zh I a) trivial))))) (by kernel_rfl)
  | x1 i2 x2 =>
    try dsimp only
    exact za [.rw 10 (I ((a.l.length : Nat) : Int)), .loop .ret (sd20081 a b i2 x2)] (And.intro (po_lr (q := lr_slices_Compare_2 a b) (lp_slices_Compare_2 a b a.l 0 (List.drop_zero) (Nat.zero_le _) (by first | assumption | omega)) h5) (And.intro (zh I a) trivial)) (by kernel_rfl)
  | x2 i2 x2 =>
    try dsimp only
    exact za [.rw 10 (I ((a.l.length : Nat) : Int)), .loop .ret (sd20082 a b i2 x2)] (And.intro (po_lr (q := lr_slices_Compare_2 a b) (lp_slices_Compare_2 a b a.l 0 (List.drop_zero) (Nat.zero_le _) (by first | assumption | omega)) h5) (And.intro (zh I a) trivial)) (by kernel_rfl)

def zv (a : GS Int) (b : GS Int) (e : S_Estate) : Int :=
  or3 (zH (zP e a) (zP e b)) (zH ((a.l.length : Nat) : Int) ((b.l.length : Nat) : Int)) (slices_Compare a b)

theorem T_orders_cheapest_1 (a : GS Int) (b : GS Int) (e : S_Estate) (ha : ∀ i ∈ a.l, 0 ≤ i ∧ i < ((e.items.l.length : Nat) : Int)) (hb : ∀ i ∈ b.l, 0 ≤ i ∧ i < ((e.items.l.length : Nat) : Int)) (hLa : a.l.length ≤ 1099511627776) (hLb : b.l.length ≤ 1099511627776) : (lim cfg).pure 99 [GS.D I 1 a, GS.D I 1 b, .ptr (S_Estate.D e)] = some (I (zv a b e)) := by
  unfold zv
  exact za [.pure (I (zP e a)), .pure (I (zP e b)), .pure (I (zH (zP e a) (zP e b))), .rw 14 (I ((a.l.length : Nat) : Int)), .rw 16 (I ((b.l.length : Nat) : Int)), .pure (I (zH ((a.l.length : Nat) : Int) ((b.l.length : Nat) : Int))), .pure (I (slices_Compare a b)), .pure (I (or3 (zH (zP e a) (zP e b)) (zH ((a.l.length : Nat) : Int) ((b.l.length : Nat) : Int)) (slices_Compare a b)))] (And.intro (T_or3 (zH (zP e a) (zP e b)) (zH ((a.l.length : Nat) : Int) ((b.l.length : Nat) : Int)) (slices_Compare a b)) (And.intro (T_slices_Compare a b (by first | assumption | omega)) (And.intro (T_cmp_Compare ((a.l.length : Nat) : Int) ((b.l.length : Nat) : Int)) (And.intro (zh I b) (And.intro (zh I a) (And.intro (T_cmp_Compare (zP e a) (zP e b)) (And.intro (T_orders_cost e b (by first | assumption | omega) (by first | assumption | omega)) (And.intro (T_orders_cost e a (by first | assumption | omega) (by first | assumption | omega)) trivial)))))))) (by kernel_rfl)

def zm (items : GS Int) (e : S_Estate) (low : Int) (high : Int) : Bool :=
  bif ((zG e items low high).2) then
    false
  else
    true

theorem T_orders_Cheapest_1 (items : GS Int) (e : S_Estate) (low : Int) (high : Int) (hall : ∀ i ∈ items.l, 0 ≤ i ∧ i < ((e.items.l.length : Nat) : Int)) (hLi : items.l.length ≤ 1099511627776) (hLe : e.items.l.length ≤ 12) : (lim cfg).pure 73 [GS.D I 1 items, .ptr (S_Estate.D e), .ptr (I low), .ptr (I high)] = some (B (zm items e low high)) := by
  unfold zm
  cases h1 : ((zG e items low high).2) with
  | true =>
    exact za [.pure (.tup [.sl (((zG e items low high).1).nl) ((((zG e items low high).1).l).map I) (zsl (((zG e items low high).1).nl) 1) none, B ((zG e items low high).2)]), .dec true] (And.intro h1 (And.intro (T_orders_open e items low high (by first | assumption | omega) (by first | assumption | omega) (by first | assumption | omega)) trivial)) (by kernel_rfl)
  | false =>
    exact za [.pure (.tup [.sl (((zG e items low high).1).nl) ((((zG e items low high).1).l).map I) (zsl (((zG e items low high).1).nl) 1) none, B ((zG e items low high).2)]), .dec false] (And.intro h1 (And.intro (T_orders_open e items low high (by first | assumption | omega) (by first | assumption | omega) (by first | assumption | omega)) trivial)) (by kernel_rfl)
end Go.VS

