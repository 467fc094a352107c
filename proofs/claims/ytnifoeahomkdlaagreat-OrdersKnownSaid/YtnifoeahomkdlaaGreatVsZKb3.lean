/- Nothing of a statement is proved in this text alone: it is part 3 of the proof's own tools, an evaluator of the code over deep values, its soundness, and what it makes of this seat's functions. Conditions: none beyond the statement's own. -/
import Derived.Test.YtnifoeahomkdlaaGreatVsZKb2
set_option linter.unusedSimpArgs false
set_option linter.unusedVariables false
namespace Go.VS
open Go Go.Proofs
set_option maxHeartbeats 0
set_option linter.unusedSimpArgs false
set_option linter.unusedVariables false
structure S_Span where
  lo : Int
  hi : Int
instance : Inhabited S_Span := ⟨⟨0, 0⟩⟩
def S_Span.D (x : S_Span) : VS.D := .agg [I x.lo, I x.hi]
structure S_Item where
  now : S_Span
  cost : Int
  error : Int
instance : Inhabited S_Item := ⟨⟨default, 0, 0⟩⟩
def S_Item.D (x : S_Item) : VS.D := .agg [I x.now.lo, I x.now.hi, I x.cost, I x.error]
structure S_Estate where
  items : GS S_Item
  whole : S_Span
instance : Inhabited S_Estate := ⟨⟨GS.nil, default⟩⟩
def S_Estate.D (x : S_Estate) : VS.D := .agg [.sl x.items.nl (x.items.l.map S_Item.D) (zsl x.items.nl 4) none, I x.whole.lo, I x.whole.hi]
def zt (n : Int) (lo : Int) (hi : Int) : Bool :=
  bif decide (n ≥ lo) then
    bif decide (n ≤ hi) then
      true
    else
      false
  else
    false

theorem T_orders_within (n : Int) (lo : Int) (hi : Int) : (lim cfg).pure 81 [I n, I lo, I hi] = some (B (zt n lo hi)) := by
  unfold zt
  cases h1 : decide (n ≥ lo) with
  | true =>
    have g1 := of_decide_eq_true h1
    cases h2 : decide (n ≤ hi) with
    | true =>
      have g2 := of_decide_eq_true h2
      exact zh [.dec true, .dec true] (And.intro h2 (And.intro h1 trivial)) (by kernel_rfl)
    | false =>
      have g2 := of_decide_eq_false h2
      exact zh [.dec true, .dec false] (And.intro h2 (And.intro h1 trivial)) (by kernel_rfl)
  | false =>
    have g1 := of_decide_eq_false h1
    exact zh [.dec false] (And.intro h1 trivial) (by kernel_rfl)

theorem within_eq (n lo hi : Int) : zt n lo hi = (decide (lo ≤ n) && decide (n ≤ hi)) := by
  unfold zt
  cases h1 : decide (n ≥ lo) <;> cases h2 : decide (n ≤ hi) <;> simp_all
theorem within_t {n lo hi : Int} (h : zt n lo hi = true) : lo ≤ n ∧ n ≤ hi := by simpa [within_eq] using h
theorem within_f {n lo hi : Int} (h : zt n lo hi = false) : ¬ (lo ≤ n ∧ n ≤ hi) := by
  rw [within_eq] at h
  intro hh
  simp [hh.1, hh.2] at h

def orders_span (x : S_Span) (most : Int) : Bool :=
  bif decide (x.lo ≥ 0) then
    bif decide (x.lo ≤ x.hi) then
      bif decide (x.hi ≤ most) then
        true
      else
        false
    else
      false
  else
    false

theorem T_orders_span (x : S_Span) (most : Int) : (lim cfg).pure 82 [S_Span.D x, I most] = some (B (orders_span x most)) := by
  unfold orders_span
  cases h1 : decide (x.lo ≥ 0) with
  | true =>
    have g1 := of_decide_eq_true h1
    cases h2 : decide (x.lo ≤ x.hi) with
    | true =>
      have g2 := of_decide_eq_true h2
      cases h3 : decide (x.hi ≤ most) with
      | true =>
        have g3 := of_decide_eq_true h3
        exact zh [.dec true, .dec true, .dec true] (And.intro h3 (And.intro h2 (And.intro h1 trivial))) (by kernel_rfl)
      | false =>
        have g3 := of_decide_eq_false h3
        exact zh [.dec true, .dec true, .dec false] (And.intro h3 (And.intro h2 (And.intro h1 trivial))) (by kernel_rfl)
    | false =>
      have g2 := of_decide_eq_false h2
      exact zh [.dec true, .dec false] (And.intro h2 (And.intro h1 trivial)) (by kernel_rfl)
  | false =>
    have g1 := of_decide_eq_false h1
    exact zh [.dec false] (And.intro h1 trivial) (by kernel_rfl)

def zf (x : S_Span) (y : S_Span) : S_Span × Bool :=
  bif decide ((imax x.lo y.lo) ≤ (zV x.hi y.hi)) then
    ((⟨imax x.lo y.lo, zV x.hi y.hi⟩ : S_Span), true)
  else
    ((⟨imax x.lo y.lo, zV x.hi y.hi⟩ : S_Span), false)

theorem T_orders_common (x : S_Span) (y : S_Span) : (lim cfg).pure 83 [S_Span.D x, S_Span.D y] = some (.tup [S_Span.D ((zf x y).1), B ((zf x y).2)]) := by
  unfold zf
  cases h1 : decide ((imax x.lo y.lo) ≤ (zV x.hi y.hi)) with
  | true =>
    have g1 := of_decide_eq_true h1
    exact zh [.dec true] (And.intro h1 trivial) (by kernel_rfl)
  | false =>
    have g1 := of_decide_eq_false h1
    exact zh [.dec false] (And.intro h1 trivial) (by kernel_rfl)

def zq (i : S_Item) : Int :=
  imax 0 (w64 ((w64 (i.now.hi - i.now.lo)) - (w64 (2 * i.error))))

theorem T_orders_gain (i : S_Item) : (lim cfg).pure 96 [S_Item.D i] = some (I (zq i)) := by
  unfold zq
  exact zh [] (trivial) (by kernel_rfl)

noncomputable def lp48_2 : Code := subC [1, 0, 1, 0, 0] (bodyC Tryz.f48)

inductive LR_orders_all_2 where
  | x0 (v2_0 : Int) (v2_1 : Int)
instance : Inhabited LR_orders_all_2 := ⟨.x0 default default⟩
def orders_all_2 : List S_Item → Int → Int → LR_orders_all_2
  | [], v2_0, v2_1 => .x0 v2_0 v2_1
  | x2 :: rest2, v2_0, v2_1 =>
    orders_all_2 rest2 (w64 (v2_0 + x2.now.lo)) (w64 (v2_1 + x2.now.hi))
def lr_orders_all_2 (e : S_Estate) : LR_orders_all_2 → Exit × St
  | .x0 v2_0 v2_1 => ((.exit 0), ⟨28, [(9, B false), (2, .lref 0 0 2 0), (6, .sl e.items.nl (e.items.l.map S_Item.D) (zsl e.items.nl 4) none), (7, I ((e.items.l.length : Nat) : Int)), (8, I ((e.items.l.length : Nat) : Int))], [(0, ⟨[.agg [I v2_0, I v2_1]], 2, false⟩)], 1, 0⟩)
theorem lp_orders_all_2 (e : S_Estate) : ∀ (rest2 : List S_Item) (i2 : Nat) (v2_0 : Int) (v2_1 : Int) (hd2 : e.items.l.drop i2 = rest2) (hi2 : i2 ≤ e.items.l.length) (hL2 : e.items.l.length ≤ 9223372036854775807), (lim cfg).loop 48 lp48_2 ⟨28, [(2, .lref 0 0 2 0), (6, .sl e.items.nl (e.items.l.map S_Item.D) (zsl e.items.nl 4) none), (7, I ((e.items.l.length : Nat) : Int)), (8, I ((i2 : Nat) : Int))], [(0, ⟨[.agg [I v2_0, I v2_1]], 2, false⟩)], 1, 0⟩ = some (lr_orders_all_2 e (orders_all_2 rest2 v2_0 v2_1)) := by
  intro rest2
  induction rest2 with
  | nil =>
    intro i2 v2_0 v2_1 hd2 hi2 hL2
    unfold orders_all_2
    obtain rfl : i2 = e.items.l.length := nil_eq hd2 hi2
    exact zH [.dec false] (And.intro (lt_no hd2) trivial) (by kernel_rfl)
  | cons x2 rest2 ih =>
    intro i2 v2_0 v2_1 hd2 hi2 hL2
    have hlt2 := zv hd2
    unfold orders_all_2
    exact po_turn [.dec true, .el (.agg [I x2.now.lo, I x2.now.hi, I x2.cost, I x2.error]), .rw 26 (I ((i2 + 1 : Nat) : Int))] (And.intro (inc_rw (i := i2) (by have := zv hd2; omega)) (And.intro (el_at (s := e.items) (f := S_Item.D) (k := 4) hd2) (And.intro (lt_at hd2) trivial))) (ih (i2 + 1) (w64 (v2_0 + x2.now.lo)) (w64 (v2_1 + x2.now.hi)) (zA hd2) (zv hd2) (by first | assumption | omega | (simp only [z8] at * <;> omega) | (simp only [GS.some_l, List.length_set, List.length_append, List.length_cons, List.length_nil] at * <;> first | with_reducible assumption | omega) | (simp only [GS.some_l, List.length_set, List.length_append, List.length_cons, List.length_nil, z8] at * <;> first | with_reducible assumption | omega) | (simp at * <;> omega))) (by kernel_rfl)

def zm (e : S_Estate) : S_Span :=
  match orders_all_2 e.items.l 0 0 with
  | .x0 v2_0 v2_1 =>
    (⟨v2_0, v2_1⟩ : S_Span)

def sd0 (e : S_Estate) (v2_0 : Int) (v2_1 : Int) : St := ⟨28, [(9, B false), (2, .lref 0 0 2 0), (6, .sl e.items.nl (e.items.l.map S_Item.D) (zsl e.items.nl 4) none), (7, I ((e.items.l.length : Nat) : Int)), (8, I ((e.items.l.length : Nat) : Int))], [(0, ⟨[.agg [I v2_0, I v2_1]], 2, false⟩)], 1, 0⟩

theorem T_orders_all (e : S_Estate) (hL_e_items : e.items.l.length ≤ 9223372036854775807) : (lim cfg).pure 48 [S_Estate.D e] = some (S_Span.D (zm e)) := by
  unfold zm
  cases h1 : orders_all_2 e.items.l 0 0 with
  | x0 v2_0 v2_1 =>
    try dsimp only
    exact zh [.rw 7 (I ((e.items.l.length : Nat) : Int)), .loop (.exit 0) (sd0 e v2_0 v2_1)] (And.intro (po_lr (q := lr_orders_all_2 e) (lp_orders_all_2 e e.items.l 0 0 0 (List.drop_zero) (Nat.zero_le _) (by first | assumption | omega | (simp only [z8] at * <;> omega) | (simp only [GS.some_l, List.length_set, List.length_append, List.length_cons, List.length_nil] at * <;> first | with_reducible assumption | omega) | (simp only [GS.some_l, List.length_set, List.length_append, List.length_cons, List.length_nil, z8] at * <;> first | with_reducible assumption | omega) | (simp at * <;> omega))) h1) (And.intro (zn S_Item.D e.items) trivial)) (by kernel_rfl)

noncomputable def lp31_4 : Code := subC [1, 1, 0, 1, 0, 0] (bodyC Tryz.f31)

inductive LR_orders_Check_4 where
  | x0
  | x1 (i4 : Nat) (x4 : S_Item)
  | x2 (i4 : Nat) (x4 : S_Item)
  | x3 (i4 : Nat) (x4 : S_Item)
instance : Inhabited LR_orders_Check_4 := ⟨.x0⟩
def orders_Check_4 : List S_Item → Nat → LR_orders_Check_4
  | [], i4 => .x0
  | x4 :: rest4, i4 =>
    bif (orders_span x4.now 1073741824) then
      bif (zt x4.cost 0 10000) then
        bif (zt x4.error 0 1048576) then
          orders_Check_4 rest4 (i4 + 1)
        else
          .x1 i4 x4
      else
        .x2 i4 x4
    else
      .x3 i4 x4
def lr_orders_Check_4 (e : S_Estate) : LR_orders_Check_4 → Exit × St
  | .x0 => ((.exit 0), ⟨52, [(22, B false), (1, .lref 0 0 3 0), (19, .sl e.items.nl (e.items.l.map S_Item.D) (zsl e.items.nl 4) none), (20, I ((e.items.l.length : Nat) : Int)), (21, I ((e.items.l.length : Nat) : Int))], [(0, ⟨[.agg [.sl e.items.nl (e.items.l.map S_Item.D) (zsl e.items.nl 4) none, I e.whole.lo, I e.whole.hi]], 3, false⟩)], 1, 0⟩)
  | .x1 i4 x4 => (.ret, ⟨52, [(2, I 80), (40, B true), (39, B true), (38, B false), (37, I x4.error), (36, .lref 1 0 4 3), (35, B false), (34, B false), (33, B false), (32, B true), (31, I x4.cost), (30, .lref 1 0 4 2), (29, B false), (28, B false), (27, B true), (26, .agg [I x4.now.lo, I x4.now.hi]), (25, .lref 1 0 4 0), (4, .lref 1 0 4 0), (24, .agg [I x4.now.lo, I x4.now.hi, I x4.cost, I x4.error]), (23, .ptr (.agg [I x4.now.lo, I x4.now.hi, I x4.cost, I x4.error])), (22, B true), (1, .lref 0 0 3 0), (19, .sl e.items.nl (e.items.l.map S_Item.D) (zsl e.items.nl 4) none), (20, I ((e.items.l.length : Nat) : Int)), (21, I ((i4 : Nat) : Int))], [(0, ⟨[.agg [.sl e.items.nl (e.items.l.map S_Item.D) (zsl e.items.nl 4) none, I e.whole.lo, I e.whole.hi]], 3, false⟩), (1, ⟨[.agg [I x4.now.lo, I x4.now.hi, I x4.cost, I x4.error]], 4, false⟩)], 2, 0⟩)
  | .x2 i4 x4 => (.ret, ⟨52, [(2, I 80), (40, B true), (39, .tup []), (38, .tup []), (37, .tup []), (36, .tup []), (35, B true), (34, B true), (33, B true), (32, B false), (31, I x4.cost), (30, .lref 1 0 4 2), (29, B false), (28, B false), (27, B true), (26, .agg [I x4.now.lo, I x4.now.hi]), (25, .lref 1 0 4 0), (4, .lref 1 0 4 0), (24, .agg [I x4.now.lo, I x4.now.hi, I x4.cost, I x4.error]), (23, .ptr (.agg [I x4.now.lo, I x4.now.hi, I x4.cost, I x4.error])), (22, B true), (1, .lref 0 0 3 0), (19, .sl e.items.nl (e.items.l.map S_Item.D) (zsl e.items.nl 4) none), (20, I ((e.items.l.length : Nat) : Int)), (21, I ((i4 : Nat) : Int))], [(0, ⟨[.agg [.sl e.items.nl (e.items.l.map S_Item.D) (zsl e.items.nl 4) none, I e.whole.lo, I e.whole.hi]], 3, false⟩), (1, ⟨[.agg [I x4.now.lo, I x4.now.hi, I x4.cost, I x4.error]], 4, false⟩)], 2, 0⟩)
  | .x3 i4 x4 => (.ret, ⟨52, [(2, I 80), (40, B true), (39, .tup []), (38, .tup []), (37, .tup []), (36, .tup []), (35, B true), (34, B true), (33, .tup []), (32, .tup []), (31, .tup []), (30, .tup []), (29, B true), (28, B true), (27, B false), (26, .agg [I x4.now.lo, I x4.now.hi]), (25, .lref 1 0 4 0), (4, .lref 1 0 4 0), (24, .agg [I x4.now.lo, I x4.now.hi, I x4.cost, I x4.error]), (23, .ptr (.agg [I x4.now.lo, I x4.now.hi, I x4.cost, I x4.error])), (22, B true), (1, .lref 0 0 3 0), (19, .sl e.items.nl (e.items.l.map S_Item.D) (zsl e.items.nl 4) none), (20, I ((e.items.l.length : Nat) : Int)), (21, I ((i4 : Nat) : Int))], [(0, ⟨[.agg [.sl e.items.nl (e.items.l.map S_Item.D) (zsl e.items.nl 4) none, I e.whole.lo, I e.whole.hi]], 3, false⟩), (1, ⟨[.agg [I x4.now.lo, I x4.now.hi, I x4.cost, I x4.error]], 4, false⟩)], 2, 0⟩)
def orders_Check_4_l_o1 (x4 : S_Item) : List Ora := [.dec true, .el (.agg [I x4.now.lo, I x4.now.hi, I x4.cost, I x4.error]), .pure (B (orders_span x4.now 1073741824)), .dec true, .pure (B (zt x4.cost 0 10000))]
theorem lp_orders_Check_4 (e : S_Estate) : ∀ (rest4 : List S_Item) (i4 : Nat) (hd4 : e.items.l.drop i4 = rest4) (hi4 : i4 ≤ e.items.l.length) (hL4 : e.items.l.length ≤ 9223372036854775807), (lim cfg).loop 31 lp31_4 ⟨52, [(1, .lref 0 0 3 0), (19, .sl e.items.nl (e.items.l.map S_Item.D) (zsl e.items.nl 4) none), (20, I ((e.items.l.length : Nat) : Int)), (21, I ((i4 : Nat) : Int))], [(0, ⟨[.agg [.sl e.items.nl (e.items.l.map S_Item.D) (zsl e.items.nl 4) none, I e.whole.lo, I e.whole.hi]], 3, false⟩)], 1, 0⟩ = some (lr_orders_Check_4 e (orders_Check_4 rest4 i4)) := by
  intro rest4
  induction rest4 with
  | nil =>
    intro i4 hd4 hi4 hL4
    unfold orders_Check_4
    obtain rfl : i4 = e.items.l.length := nil_eq hd4 hi4
    exact zH [.dec false] (And.intro (lt_no hd4) trivial) (by kernel_rfl)
  | cons x4 rest4 ih =>
    intro i4 hd4 hi4 hL4
    have hlt4 := zv hd4
    unfold orders_Check_4
    have p1 := (el_at (s := e.items) (f := S_Item.D) (k := 4) hd4)
    cases h6 : (orders_span x4.now 1073741824) with
    | true =>
      cases h7 : (zt x4.cost 0 10000) with
      | true =>
        have g7 := within_t h7
        cases h8 : (zt x4.error 0 1048576) with
        | true =>
          have g8 := within_t h8
          exact po_turn ((orders_Check_4_l_o1 x4) ++ [.dec true, .pure (B (zt x4.error 0 1048576)), .dec true, .rw 41 (I ((i4 + 1 : Nat) : Int))]) (And.intro (inc_rw (i := i4) (by have := zv hd4; omega)) (And.intro h8 (And.intro (T_orders_within x4.error 0 1048576) (And.intro h7 (And.intro (T_orders_within x4.cost 0 10000) (And.intro h6 (And.intro (T_orders_span x4.now 1073741824) (And.intro p1 (And.intro (lt_at hd4) trivial))))))))) (ih (i4 + 1) (zA hd4) (zv hd4) (by first | assumption | omega | (simp only [z8] at * <;> omega) | (simp only [GS.some_l, List.length_set, List.length_append, List.length_cons, List.length_nil] at * <;> first | with_reducible assumption | omega) | (simp only [GS.some_l, List.length_set, List.length_append, List.length_cons, List.length_nil, z8] at * <;> first | with_reducible assumption | omega) | (simp at * <;> omega))) (by kernel_rfl)
        | false =>
          have g8 := within_f h8
          exact zH ((orders_Check_4_l_o1 x4) ++ [.dec true, .pure (B (zt x4.error 0 1048576)), .dec false]) (And.intro h8 (And.intro (T_orders_within x4.error 0 1048576) (And.intro h7 (And.intro (T_orders_within x4.cost 0 10000) (And.intro h6 (And.intro (T_orders_span x4.now 1073741824) (And.intro p1 (And.intro (lt_at hd4) trivial)))))))) (by kernel_rfl)
      | false =>
        have g7 := within_f h7
        exact zH ((orders_Check_4_l_o1 x4) ++ [.dec false]) (And.intro h7 (And.intro (T_orders_within x4.cost 0 10000) (And.intro h6 (And.intro (T_orders_span x4.now 1073741824) (And.intro p1 (And.intro (lt_at hd4) trivial)))))) (by kernel_rfl)
    | false =>
      exact zH [.dec true, .el (.agg [I x4.now.lo, I x4.now.hi, I x4.cost, I x4.error]), .pure (B (orders_span x4.now 1073741824)), .dec false] (And.intro h6 (And.intro (T_orders_span x4.now 1073741824) (And.intro p1 (And.intro (lt_at hd4) trivial)))) (by kernel_rfl)

def zo (e : S_Estate) : Int :=
  bif (zt ((e.items.l.length : Nat) : Int) 1 12) then
    bif (orders_span e.whole 17179869184) then
      match orders_Check_4 e.items.l 0 with
      | .x0 =>
        bif ((zf (zm e) e.whole).2) then
          0
        else
          80
      | .x1 i4 x4 =>
        80
      | .x2 i4 x4 =>
        80
      | .x3 i4 x4 =>
        80
    else
      80
  else
    80

def orders_Check_o1 (e : S_Estate) : List Ora := [.rw 9 (I ((e.items.l.length : Nat) : Int)), .pure (B (zt ((e.items.l.length : Nat) : Int) 1 12)), .dec true, .pure (B (orders_span e.whole 17179869184))]

def sd1 (e : S_Estate) : St := ⟨52, [(22, B false), (1, .lref 0 0 3 0), (19, .sl e.items.nl (e.items.l.map S_Item.D) (zsl e.items.nl 4) none), (20, I ((e.items.l.length : Nat) : Int)), (21, I ((e.items.l.length : Nat) : Int))], [(0, ⟨[.agg [.sl e.items.nl (e.items.l.map S_Item.D) (zsl e.items.nl 4) none, I e.whole.lo, I e.whole.hi]], 3, false⟩)], 1, 0⟩

def orders_Check_o2 (e : S_Estate) : List Ora := [.dec true, .rw 20 (I ((e.items.l.length : Nat) : Int)), .loop (.exit 0) (sd1 e), .pure (.agg [I ((zm e).lo), I ((zm e).hi)]), .pure (.tup [.agg [I (((zf (zm e) e.whole).1).lo), I (((zf (zm e) e.whole).1).hi)], B ((zf (zm e) e.whole).2)])]

def sd2 (e : S_Estate) (i4 : Nat) (x4 : S_Item) : St := ⟨52, [(2, I 80), (40, B true), (39, B true), (38, B false), (37, I x4.error), (36, .lref 1 0 4 3), (35, B false), (34, B false), (33, B false), (32, B true), (31, I x4.cost), (30, .lref 1 0 4 2), (29, B false), (28, B false), (27, B true), (26, .agg [I x4.now.lo, I x4.now.hi]), (25, .lref 1 0 4 0), (4, .lref 1 0 4 0), (24, .agg [I x4.now.lo, I x4.now.hi, I x4.cost, I x4.error]), (23, .ptr (.agg [I x4.now.lo, I x4.now.hi, I x4.cost, I x4.error])), (22, B true), (1, .lref 0 0 3 0), (19, .sl e.items.nl (e.items.l.map S_Item.D) (zsl e.items.nl 4) none), (20, I ((e.items.l.length : Nat) : Int)), (21, I ((i4 : Nat) : Int))], [(0, ⟨[.agg [.sl e.items.nl (e.items.l.map S_Item.D) (zsl e.items.nl 4) none, I e.whole.lo, I e.whole.hi]], 3, false⟩), (1, ⟨[.agg [I x4.now.lo, I x4.now.hi, I x4.cost, I x4.error]], 4, false⟩)], 2, 0⟩

def sd3 (e : S_Estate) (i4 : Nat) (x4 : S_Item) : St := ⟨52, [(2, I 80), (40, B true), (39, .tup []), (38, .tup []), (37, .tup []), (36, .tup []), (35, B true), (34, B true), (33, B true), (32, B false), (31, I x4.cost), (30, .lref 1 0 4 2), (29, B false), (28, B false), (27, B true), (26, .agg [I x4.now.lo, I x4.now.hi]), (25, .lref 1 0 4 0), (4, .lref 1 0 4 0), (24, .agg [I x4.now.lo, I x4.now.hi, I x4.cost, I x4.error]), (23, .ptr (.agg [I x4.now.lo, I x4.now.hi, I x4.cost, I x4.error])), (22, B true), (1, .lref 0 0 3 0), (19, .sl e.items.nl (e.items.l.map S_Item.D) (zsl e.items.nl 4) none), (20, I ((e.items.l.length : Nat) : Int)), (21, I ((i4 : Nat) : Int))], [(0, ⟨[.agg [.sl e.items.nl (e.items.l.map S_Item.D) (zsl e.items.nl 4) none, I e.whole.lo, I e.whole.hi]], 3, false⟩), (1, ⟨[.agg [I x4.now.lo, I x4.now.hi, I x4.cost, I x4.error]], 4, false⟩)], 2, 0⟩

def sd4 (e : S_Estate) (i4 : Nat) (x4 : S_Item) : St := ⟨52, [(2, I 80), (40, B true), (39, .tup []), (38, .tup []), (37, .tup []), (36, .tup []), (35, B true), (34, B true), (33, .tup []), (32, .tup []), (31, .tup []), (30, .tup []), (29, B true), (28, B true), (27, B false), (26, .agg [I x4.now.lo, I x4.now.hi]), (25, .lref 1 0 4 0), (4, .lref 1 0 4 0), (24, .agg [I x4.now.lo, I x4.now.hi, I x4.cost, I x4.error]), (23, .ptr (.agg [I x4.now.lo, I x4.now.hi, I x4.cost, I x4.error])), (22, B true), (1, .lref 0 0 3 0), (19, .sl e.items.nl (e.items.l.map S_Item.D) (zsl e.items.nl 4) none), (20, I ((e.items.l.length : Nat) : Int)), (21, I ((i4 : Nat) : Int))], [(0, ⟨[.agg [.sl e.items.nl (e.items.l.map S_Item.D) (zsl e.items.nl 4) none, I e.whole.lo, I e.whole.hi]], 3, false⟩), (1, ⟨[.agg [I x4.now.lo, I x4.now.hi, I x4.cost, I x4.error]], 4, false⟩)], 2, 0⟩

theorem zy (e : S_Estate) : (lim cfg).pure 31 [S_Estate.D e] = some (I (zo e)) := by
  unfold zo
  have p1 := (T_orders_within ((e.items.l.length : Nat) : Int) 1 12)
  cases h1 : (zt ((e.items.l.length : Nat) : Int) 1 12) with
  | true =>
    have g1 := within_t h1
    cases h2 : (orders_span e.whole 17179869184) with
    | true =>
      cases h9 : orders_Check_4 e.items.l 0 with
      | x0 =>
        try dsimp only
        have p2 := (po_lr (q := lr_orders_Check_4 e) (lp_orders_Check_4 e e.items.l 0 (List.drop_zero) (Nat.zero_le _) (by first | assumption | omega | (simp only [z8] at * <;> omega) | (simp only [GS.some_l, List.length_set, List.length_append, List.length_cons, List.length_nil] at * <;> first | with_reducible assumption | omega) | (simp only [GS.some_l, List.length_set, List.length_append, List.length_cons, List.length_nil, z8] at * <;> first | with_reducible assumption | omega) | (simp at * <;> omega))) h9)
        cases h10 : ((zf (zm e) e.whole).2) with
        | true =>
          exact zh ((orders_Check_o1 e) ++ ((orders_Check_o2 e) ++ [.dec true])) (And.intro h10 (And.intro (T_orders_common (zm e) e.whole) (And.intro (T_orders_all e (by first | assumption | omega | (simp only [z8] at * <;> omega) | (simp only [GS.some_l, List.length_set, List.length_append, List.length_cons, List.length_nil] at * <;> first | with_reducible assumption | omega) | (simp only [GS.some_l, List.length_set, List.length_append, List.length_cons, List.length_nil, z8] at * <;> first | with_reducible assumption | omega) | (simp at * <;> omega))) (And.intro p2 (And.intro (zn S_Item.D e.items) (And.intro h2 (And.intro (T_orders_span e.whole 17179869184) (And.intro h1 (And.intro p1 (And.intro (zn S_Item.D e.items) trivial)))))))))) (by kernel_rfl)
        | false =>
          exact zh ((orders_Check_o1 e) ++ ((orders_Check_o2 e) ++ [.dec false])) (And.intro h10 (And.intro (T_orders_common (zm e) e.whole) (And.intro (T_orders_all e (by first | assumption | omega | (simp only [z8] at * <;> omega) | (simp only [GS.some_l, List.length_set, List.length_append, List.length_cons, List.length_nil] at * <;> first | with_reducible assumption | omega) | (simp only [GS.some_l, List.length_set, List.length_append, List.length_cons, List.length_nil, z8] at * <;> first | with_reducible assumption | omega) | (simp at * <;> omega))) (And.intro p2 (And.intro (zn S_Item.D e.items) (And.intro h2 (And.intro (T_orders_span e.whole 17179869184) (And.intro h1 (And.intro p1 (And.intro (zn S_Item.D e.items) trivial)))))))))) (by kernel_rfl)
      | x1 i4 x4 =>
        try dsimp only
        exact zh ((orders_Check_o1 e) ++ [.dec true, .rw 20 (I ((e.items.l.length : Nat) : Int)), .loop .ret (sd2 e i4 x4)]) (And.intro (po_lr (q := lr_orders_Check_4 e) (lp_orders_Check_4 e e.items.l 0 (List.drop_zero) (Nat.zero_le _) (by first | assumption | omega | (simp only [z8] at * <;> omega) | (simp only [GS.some_l, List.length_set, List.length_append, List.length_cons, List.length_nil] at * <;> first | with_reducible assumption | omega) | (simp only [GS.some_l, List.length_set, List.length_append, List.length_cons, List.length_nil, z8] at * <;> first | with_reducible assumption | omega) | (simp at * <;> omega))) h9) (And.intro (zn S_Item.D e.items) (And.intro h2 (And.intro (T_orders_span e.whole 17179869184) (And.intro h1 (And.intro p1 (And.intro (zn S_Item.D e.items) trivial))))))) (by kernel_rfl)
      | x2 i4 x4 =>
        try dsimp only
        exact zh ((orders_Check_o1 e) ++ [.dec true, .rw 20 (I ((e.items.l.length : Nat) : Int)), .loop .ret (sd3 e i4 x4)]) (And.intro (po_lr (q := lr_orders_Check_4 e) (lp_orders_Check_4 e e.items.l 0 (List.drop_zero) (Nat.zero_le _) (by first | assumption | omega | (simp only [z8] at * <;> omega) | (simp only [GS.some_l, List.length_set, List.length_append, List.length_cons, List.length_nil] at * <;> first | with_reducible assumption | omega) | (simp only [GS.some_l, List.length_set, List.length_append, List.length_cons, List.length_nil, z8] at * <;> first | with_reducible assumption | omega) | (simp at * <;> omega))) h9) (And.intro (zn S_Item.D e.items) (And.intro h2 (And.intro (T_orders_span e.whole 17179869184) (And.intro h1 (And.intro p1 (And.intro (zn S_Item.D e.items) trivial))))))) (by kernel_rfl)
      | x3 i4 x4 =>
        try dsimp only
        exact zh ((orders_Check_o1 e) ++ [.dec true, .rw 20 (I ((e.items.l.length : Nat) : Int)), .loop .ret (sd4 e i4 x4)]) (And.intro (po_lr (q := lr_orders_Check_4 e) (lp_orders_Check_4 e e.items.l 0 (List.drop_zero) (Nat.zero_le _) (by first | assumption | omega | (simp only [z8] at * <;> omega) | (simp only [GS.some_l, List.length_set, List.length_append, List.length_cons, List.length_nil] at * <;> first | with_reducible assumption | omega) | (simp only [GS.some_l, List.length_set, List.length_append, List.length_cons, List.length_nil, z8] at * <;> first | with_reducible assumption | omega) | (simp at * <;> omega))) h9) (And.intro (zn S_Item.D e.items) (And.intro h2 (And.intro (T_orders_span e.whole 17179869184) (And.intro h1 (And.intro p1 (And.intro (zn S_Item.D e.items) trivial))))))) (by kernel_rfl)
    | false =>
      exact zh ((orders_Check_o1 e) ++ [.dec false]) (And.intro h2 (And.intro (T_orders_span e.whole 17179869184) (And.intro h1 (And.intro p1 (And.intro (zn S_Item.D e.items) trivial))))) (by kernel_rfl)
  | false =>
    have g1 := within_f h1
    exact zh [.rw 9 (I ((e.items.l.length : Nat) : Int)), .pure (B (zt ((e.items.l.length : Nat) : Int) 1 12)), .dec false] (And.intro h1 (And.intro p1 (And.intro (zn S_Item.D e.items) trivial))) (by kernel_rfl)

theorem check_len {e : S_Estate} (h : zo e = 0) : 1 ≤ e.items.l.length ∧ e.items.l.length ≤ 12 := by
  unfold zo at h
  cases hw : zt ((e.items.l.length : Nat) : Int) 1 12 with
  | true => have := within_t hw; omega
  | false => rw [hw] at h; simp at h

def orders_part (e : S_Estate) (k : Int) : S_Span :=
  bif ((zf ((GS.at e.items k).now) (⟨w64 (e.whole.lo - (w64 (((zm e).hi) - ((GS.at e.items k).now.hi)))), w64 (e.whole.hi - (w64 (((zm e).lo) - ((GS.at e.items k).now.lo))))⟩ : S_Span)).2) then
    ((zf ((GS.at e.items k).now) (⟨w64 (e.whole.lo - (w64 (((zm e).hi) - ((GS.at e.items k).now.hi)))), w64 (e.whole.hi - (w64 (((zm e).lo) - ((GS.at e.items k).now.lo))))⟩ : S_Span)).1)
  else
    ((zf ((GS.at e.items k).now) (⟨w64 (e.whole.lo - (w64 (((zm e).hi) - ((GS.at e.items k).now.hi)))), w64 (e.whole.hi - (w64 (((zm e).lo) - ((GS.at e.items k).now.lo))))⟩ : S_Span)).1)

theorem T_orders_part (e : S_Estate) (k : Int) (hk : 0 ≤ k ∧ k < ((e.items.l.length : Nat) : Int)) (hL_e_items : e.items.l.length ≤ 9223372036854775807) : (lim cfg).pure 84 [S_Estate.D e, I k] = some (S_Span.D (orders_part e k)) := by
  unfold orders_part
  cases h1 : ((zf ((GS.at e.items k).now) (⟨w64 (e.whole.lo - (w64 (((zm e).hi) - ((GS.at e.items k).now.hi)))), w64 (e.whole.hi - (w64 (((zm e).lo) - ((GS.at e.items k).now.lo))))⟩ : S_Span)).2) with
  | true =>
    exact zh [.pure (.agg [I ((zm e).lo), I ((zm e).hi)]), .el (.agg [I ((GS.at e.items k).now.lo), I ((GS.at e.items k).now.hi), I ((GS.at e.items k).cost), I ((GS.at e.items k).error)]), .pure (.tup [.agg [I (((zf ((GS.at e.items k).now) (⟨w64 (e.whole.lo - (w64 (((zm e).hi) - ((GS.at e.items k).now.hi)))), w64 (e.whole.hi - (w64 (((zm e).lo) - ((GS.at e.items k).now.lo))))⟩ : S_Span)).1).lo), I (((zf ((GS.at e.items k).now) (⟨w64 (e.whole.lo - (w64 (((zm e).hi) - ((GS.at e.items k).now.hi)))), w64 (e.whole.hi - (w64 (((zm e).lo) - ((GS.at e.items k).now.lo))))⟩ : S_Span)).1).hi)], B ((zf ((GS.at e.items k).now) (⟨w64 (e.whole.lo - (w64 (((zm e).hi) - ((GS.at e.items k).now.hi)))), w64 (e.whole.hi - (w64 (((zm e).lo) - ((GS.at e.items k).now.lo))))⟩ : S_Span)).2)]), .dec true] (And.intro h1 (And.intro (T_orders_common ((GS.at e.items k).now) (⟨w64 (e.whole.lo - (w64 (((zm e).hi) - ((GS.at e.items k).now.hi)))), w64 (e.whole.hi - (w64 (((zm e).lo) - ((GS.at e.items k).now.lo))))⟩ : S_Span)) (And.intro (el_in (s := e.items) (f := S_Item.D) (k := 4) (i := k) (by first | assumption | omega | (simp only [z8] at * <;> omega) | (simp only [GS.some_l, List.length_set, List.length_append, List.length_cons, List.length_nil] at * <;> first | with_reducible assumption | omega) | (simp only [GS.some_l, List.length_set, List.length_append, List.length_cons, List.length_nil, z8] at * <;> first | with_reducible assumption | omega) | (simp at * <;> omega)) (by first | assumption | omega | (simp only [z8] at * <;> omega) | (simp only [GS.some_l, List.length_set, List.length_append, List.length_cons, List.length_nil] at * <;> first | with_reducible assumption | omega) | (simp only [GS.some_l, List.length_set, List.length_append, List.length_cons, List.length_nil, z8] at * <;> first | with_reducible assumption | omega) | (simp at * <;> omega))) (And.intro (T_orders_all e (by first | assumption | omega | (simp only [z8] at * <;> omega) | (simp only [GS.some_l, List.length_set, List.length_append, List.length_cons, List.length_nil] at * <;> first | with_reducible assumption | omega) | (simp only [GS.some_l, List.length_set, List.length_append, List.length_cons, List.length_nil, z8] at * <;> first | with_reducible assumption | omega) | (simp at * <;> omega))) trivial)))) (by kernel_rfl)
  | false =>
    exact zh [.pure (.agg [I ((zm e).lo), I ((zm e).hi)]), .el (.agg [I ((GS.at e.items k).now.lo), I ((GS.at e.items k).now.hi), I ((GS.at e.items k).cost), I ((GS.at e.items k).error)]), .pure (.tup [.agg [I (((zf ((GS.at e.items k).now) (⟨w64 (e.whole.lo - (w64 (((zm e).hi) - ((GS.at e.items k).now.hi)))), w64 (e.whole.hi - (w64 (((zm e).lo) - ((GS.at e.items k).now.lo))))⟩ : S_Span)).1).lo), I (((zf ((GS.at e.items k).now) (⟨w64 (e.whole.lo - (w64 (((zm e).hi) - ((GS.at e.items k).now.hi)))), w64 (e.whole.hi - (w64 (((zm e).lo) - ((GS.at e.items k).now.lo))))⟩ : S_Span)).1).hi)], B ((zf ((GS.at e.items k).now) (⟨w64 (e.whole.lo - (w64 (((zm e).hi) - ((GS.at e.items k).now.hi)))), w64 (e.whole.hi - (w64 (((zm e).lo) - ((GS.at e.items k).now.lo))))⟩ : S_Span)).2)]), .dec false] (And.intro h1 (And.intro (T_orders_common ((GS.at e.items k).now) (⟨w64 (e.whole.lo - (w64 (((zm e).hi) - ((GS.at e.items k).now.hi)))), w64 (e.whole.hi - (w64 (((zm e).lo) - ((GS.at e.items k).now.lo))))⟩ : S_Span)) (And.intro (el_in (s := e.items) (f := S_Item.D) (k := 4) (i := k) (by first | assumption | omega | (simp only [z8] at * <;> omega) | (simp only [GS.some_l, List.length_set, List.length_append, List.length_cons, List.length_nil] at * <;> first | with_reducible assumption | omega) | (simp only [GS.some_l, List.length_set, List.length_append, List.length_cons, List.length_nil, z8] at * <;> first | with_reducible assumption | omega) | (simp at * <;> omega)) (by first | assumption | omega | (simp only [z8] at * <;> omega) | (simp only [GS.some_l, List.length_set, List.length_append, List.length_cons, List.length_nil] at * <;> first | with_reducible assumption | omega) | (simp only [GS.some_l, List.length_set, List.length_append, List.length_cons, List.length_nil, z8] at * <;> first | with_reducible assumption | omega) | (simp at * <;> omega))) (And.intro (T_orders_all e (by first | assumption | omega | (simp only [z8] at * <;> omega) | (simp only [GS.some_l, List.length_set, List.length_append, List.length_cons, List.length_nil] at * <;> first | with_reducible assumption | omega) | (simp only [GS.some_l, List.length_set, List.length_append, List.length_cons, List.length_nil, z8] at * <;> first | with_reducible assumption | omega) | (simp at * <;> omega))) trivial)))) (by kernel_rfl)

def zr (e : S_Estate) : S_Span × Int :=
  bif ((zo e) != 0) then
    ((⟨0, 0⟩ : S_Span), (zo e))
  else
    bif ((zf (zm e) e.whole).2) then
      (((zf (zm e) e.whole).1), 0)
    else
      (((zf (zm e) e.whole).1), 0)

def orders_Sum_o1 (e : S_Estate) : List Ora := [.pure (I (zo e)), .dec false, .pure (.agg [I ((zm e).lo), I ((zm e).hi)]), .pure (.tup [.agg [I (((zf (zm e) e.whole).1).lo), I (((zf (zm e) e.whole).1).hi)], B ((zf (zm e) e.whole).2)])]

theorem T_orders_Sum (e : S_Estate) : (lim cfg).pure 35 [S_Estate.D e] = some (.tup [S_Span.D ((zr e).1), I ((zr e).2)]) := by
  unfold zr
  cases h1 : ((zo e) != 0) with
  | true =>
    have g1 := y0 h1
    exact zh [.pure (I (zo e)), .dec true] (And.intro h1 (And.intro (zy e) trivial)) (by kernel_rfl)
  | false =>
    have g1 := check_len (zF h1)
    cases h2 : ((zf (zm e) e.whole).2) with
    | true =>
      exact zh ((orders_Sum_o1 e) ++ [.dec true]) (And.intro h2 (And.intro (T_orders_common (zm e) e.whole) (And.intro (T_orders_all e (by first | assumption | omega | (simp only [z8] at * <;> omega) | (simp only [GS.some_l, List.length_set, List.length_append, List.length_cons, List.length_nil] at * <;> first | with_reducible assumption | omega) | (simp only [GS.some_l, List.length_set, List.length_append, List.length_cons, List.length_nil, z8] at * <;> first | with_reducible assumption | omega) | (simp at * <;> omega))) (And.intro h1 (And.intro (zy e) trivial))))) (by kernel_rfl)
    | false =>
      exact zh ((orders_Sum_o1 e) ++ [.dec false]) (And.intro h2 (And.intro (T_orders_common (zm e) e.whole) (And.intro (T_orders_all e (by first | assumption | omega | (simp only [z8] at * <;> omega) | (simp only [GS.some_l, List.length_set, List.length_append, List.length_cons, List.length_nil] at * <;> first | with_reducible assumption | omega) | (simp only [GS.some_l, List.length_set, List.length_append, List.length_cons, List.length_nil, z8] at * <;> first | with_reducible assumption | omega) | (simp at * <;> omega))) (And.intro h1 (And.intro (zy e) trivial))))) (by kernel_rfl)

theorem sum_ok {e : S_Estate} (h : (zr e).2 = 0) : zo e = 0 := by
  unfold zr at h
  cases hc : (zo e != 0) with
  | true => rw [hc] at h; simp at h; omega
  | false => exact zF hc

theorem zi : EncOK 4 S_Item.D := ⟨fun _ _ _ => rfl, fun _ _ => rfl, fun _ _ _ => rfl, fun _ => ⟨rfl, rfl⟩⟩

noncomputable def lp39_6 : Code := subC [1, 1, 1, 1, 0, 1, 0, 0] (bodyC Tryz.f39)

def sd5 (e : S_Estate) (i6 : Nat) (q6_0 : Int) (q6_1 : Int) (v6_0 : List S_Item) : St := ⟨38, [(25, I ((i6 + 1 : Nat) : Int)), (36, I ((i6 + 1 : Nat) : Int)), (35, .lref 3 i6 4 0), (34, .lref 3 i6 4 0), (33, .agg [I ((orders_part e ((i6 : Nat) : Int)).lo), I ((orders_part e ((i6 : Nat) : Int)).hi)]), (32, I ((i6 : Nat) : Int)), (31, .agg [.sl e.items.nl (e.items.l.map S_Item.D) (zsl e.items.nl 4) none, I e.whole.lo, I e.whole.hi]), (30, I ((i6 : Nat) : Int)), (29, .lsl 3 0 e.items.l.length 4 none), (28, .lref 2 0 3 0), (7, I ((i6 : Nat) : Int)), (27, I ((i6 : Nat) : Int)), (26, B true), (1, .lref 0 0 3 0), (2, .lref 1 0 3 0), (6, .lref 2 0 3 0), (24, I ((e.items.l.length : Nat) : Int)), (25, I ((i6 : Nat) : Int))], [(0, ⟨[.agg [.sl e.items.nl (e.items.l.map S_Item.D) (zsl e.items.nl 4) none, I e.whole.lo, I e.whole.hi]], 3, false⟩), (1, ⟨[.agg [.sl true [] 0 none, I 0, I 0]], 3, false⟩), (2, ⟨[.agg [.lsl 3 0 e.items.l.length 4 none, I q6_0, I q6_1]], 3, false⟩), (3, ⟨(v6_0.set i6 (⟨(orders_part e ((i6 : Nat) : Int)), (v6_0.getD i6 default).cost, (v6_0.getD i6 default).error⟩ : S_Item)).map S_Item.D, 4, false⟩)], 4, 0⟩

inductive LR_orders_Closed_6 where
  | x0 (v6_0 : List S_Item)
instance : Inhabited LR_orders_Closed_6 := ⟨.x0 default⟩
def zX (e : S_Estate) : List S_Item → Nat → (List S_Item) → LR_orders_Closed_6
  | [], i6, v6_0 => .x0 v6_0
  | x6 :: rest6, i6, v6_0 =>
    zX e rest6 (i6 + 1) (v6_0.set i6 (⟨(orders_part e ((i6 : Nat) : Int)), (v6_0.getD i6 default).cost, (v6_0.getD i6 default).error⟩ : S_Item))
def lr_orders_Closed_6 (e : S_Estate) (q6_0 : Int) (q6_1 : Int) : LR_orders_Closed_6 → Exit × St
  | .x0 v6_0 => ((.exit 0), ⟨38, [(26, B false), (1, .lref 0 0 3 0), (2, .lref 1 0 3 0), (6, .lref 2 0 3 0), (24, I ((e.items.l.length : Nat) : Int)), (25, I ((e.items.l.length : Nat) : Int))], [(0, ⟨[.agg [.sl e.items.nl (e.items.l.map S_Item.D) (zsl e.items.nl 4) none, I e.whole.lo, I e.whole.hi]], 3, false⟩), (1, ⟨[.agg [.sl true [] 0 none, I 0, I 0]], 3, false⟩), (2, ⟨[.agg [.lsl 3 0 e.items.l.length 4 none, I q6_0, I q6_1]], 3, false⟩), (3, ⟨v6_0.map S_Item.D, 4, false⟩)], 4, 0⟩)
def iv_orders_Closed_6 (e : S_Estate) (q6_0 : Int) (q6_1 : Int) : LR_orders_Closed_6 → Prop
  | .x0 v6_0 => (v6_0.length = e.items.l.length)
theorem lp_orders_Closed_6 (e : S_Estate) (q6_0 : Int) (q6_1 : Int) : ∀ (rest6 : List S_Item) (i6 : Nat) (v6_0 : List S_Item) (hd6 : e.items.l.drop i6 = rest6) (hi6 : i6 ≤ e.items.l.length) (hl6_v6_0 : v6_0.length = e.items.l.length) (hL6 : e.items.l.length ≤ 9223372036854775807), (lim cfg).loop 39 lp39_6 ⟨38, [(1, .lref 0 0 3 0), (2, .lref 1 0 3 0), (6, .lref 2 0 3 0), (24, I ((e.items.l.length : Nat) : Int)), (25, I ((i6 : Nat) : Int))], [(0, ⟨[.agg [.sl e.items.nl (e.items.l.map S_Item.D) (zsl e.items.nl 4) none, I e.whole.lo, I e.whole.hi]], 3, false⟩), (1, ⟨[.agg [.sl true [] 0 none, I 0, I 0]], 3, false⟩), (2, ⟨[.agg [.lsl 3 0 e.items.l.length 4 none, I q6_0, I q6_1]], 3, false⟩), (3, ⟨v6_0.map S_Item.D, 4, false⟩)], 4, 0⟩ = some (lr_orders_Closed_6 e q6_0 q6_1 (zX e rest6 i6 v6_0)) := by
  intro rest6
  induction rest6 with
  | nil =>
    intro i6 v6_0 hd6 hi6 hl6_v6_0 hL6
    unfold zX
    obtain rfl : i6 = e.items.l.length := nil_eq hd6 hi6
    exact zH [.dec false] (And.intro (lt_no hd6) trivial) (by kernel_rfl)
  | cons x6 rest6 ih =>
    intro i6 v6_0 hd6 hi6 hl6_v6_0 hL6
    have hlt6 := zv hd6
    unfold zX
    exact po_turn' (ks := [1, 2, 6, 24, 25]) (st' := (sd5 e i6 q6_0 q6_1 v6_0)) [.dec true, .pure (.agg [I ((orders_part e ((i6 : Nat) : Int)).lo), I ((orders_part e ((i6 : Nat) : Int)).hi)]), .op (some 34) ⟨.lref 3 i6 4 0, [], [], 4⟩, .stS 3 ⟨.tup [], [(3, some ⟨(v6_0.set i6 (⟨(orders_part e ((i6 : Nat) : Int)), (v6_0.getD i6 default).cost, (v6_0.getD i6 default).error⟩ : S_Item)).map S_Item.D, 4, false⟩)], [3], 4⟩, .rw 36 (I ((i6 + 1 : Nat) : Int))] (And.intro (inc_rw (i := i6) (by have := zv hd6; omega)) (And.intro (store_row (C := cfg) (objs := [(0, ⟨[.agg [.sl e.items.nl (e.items.l.map S_Item.D) (zsl e.items.nl 4) none, I e.whole.lo, I e.whole.hi]], 3, false⟩), (1, ⟨[.agg [.sl true [] 0 none, I 0, I 0]], 3, false⟩), (2, ⟨[.agg [.lsl 3 0 e.items.l.length 4 none, I q6_0, I q6_1]], 3, false⟩), (3, ⟨v6_0.map S_Item.D, 4, false⟩)]) (nxt := 4) (t := 24) (ty := ty24) (o := 3) (n := i6) (sz := 4) (sub := 0) (els := v6_0.map S_Item.D) (els' := (v6_0.set i6 (⟨(orders_part e ((i6 : Nat) : Int)), (v6_0.getD i6 default).cost, (v6_0.getD i6 default).error⟩ : S_Item)).map S_Item.D) (e := S_Item.D (v6_0.getD i6 default)) (e' := S_Item.D (⟨(orders_part e ((i6 : Nat) : Int)), (v6_0.getD i6 default).cost, (v6_0.getD i6 default).error⟩ : S_Item)) (v := .agg [I ((orders_part e ((i6 : Nat) : Int)).lo), I ((orders_part e ((i6 : Nat) : Int)).hi)]) (by kernel_rfl) (by kernel_rfl) (row_get (f := S_Item.D) (by first | assumption | omega | (simp only [z8] at * <;> omega) | (simp only [GS.some_l, List.length_set, List.length_append, List.length_cons, List.length_nil] at * <;> first | with_reducible assumption | omega) | (simp only [GS.some_l, List.length_set, List.length_append, List.length_cons, List.length_nil, z8] at * <;> first | with_reducible assumption | omega) | (simp at * <;> omega))) rfl (by kernel_rfl) rfl (by kernel_rfl) (row_set (f := S_Item.D))) (And.intro (idx_row (C := cfg) (nxt := 4) (t := 22) (ty := ty22) (te := ty69) (e := 69) (o := 3) (len := e.items.l.length) (sz := 4) (cap := none) (i := ((i6 : Nat) : Int)) (by kernel_rfl) rfl (by kernel_rfl) rfl (by first | assumption | omega | (simp only [z8] at * <;> omega) | (simp only [GS.some_l, List.length_set, List.length_append, List.length_cons, List.length_nil] at * <;> first | with_reducible assumption | omega) | (simp only [GS.some_l, List.length_set, List.length_append, List.length_cons, List.length_nil, z8] at * <;> first | with_reducible assumption | omega) | (simp at * <;> omega)) (by first | assumption | omega | (simp only [z8] at * <;> omega) | (simp only [GS.some_l, List.length_set, List.length_append, List.length_cons, List.length_nil] at * <;> first | with_reducible assumption | omega) | (simp only [GS.some_l, List.length_set, List.length_append, List.length_cons, List.length_nil, z8] at * <;> first | with_reducible assumption | omega) | (simp at * <;> omega))) (And.intro (T_orders_part e ((i6 : Nat) : Int) (by first | assumption | omega | (simp only [z8] at * <;> omega) | (simp only [GS.some_l, List.length_set, List.length_append, List.length_cons, List.length_nil] at * <;> first | with_reducible assumption | omega) | (simp only [GS.some_l, List.length_set, List.length_append, List.length_cons, List.length_nil, z8] at * <;> first | with_reducible assumption | omega) | (simp at * <;> omega)) (by first | assumption | omega | (simp only [z8] at * <;> omega) | (simp only [GS.some_l, List.length_set, List.length_append, List.length_cons, List.length_nil] at * <;> first | with_reducible assumption | omega) | (simp only [GS.some_l, List.length_set, List.length_append, List.length_cons, List.length_nil, z8] at * <;> first | with_reducible assumption | omega) | (simp at * <;> omega))) (And.intro (lt_at hd6) trivial))))) (by kernel_rfl) (by (simp only [sd5, go_sem, Nat.reduceAdd, Nat.reduceEqDiff, Nat.reduceLT, Nat.reduceLeDiff, bI2, zN.idsL, zN.renL, zN.snapAll, zi.idsL, zi.renL, zi.snapAll]) <;> rfl) (ih (i6 + 1) (v6_0.set i6 (⟨(orders_part e ((i6 : Nat) : Int)), (v6_0.getD i6 default).cost, (v6_0.getD i6 default).error⟩ : S_Item)) (zA hd6) (zv hd6) (by first | assumption | omega | (simp only [z8] at * <;> omega) | (simp only [GS.some_l, List.length_set, List.length_append, List.length_cons, List.length_nil] at * <;> first | with_reducible assumption | omega) | (simp only [GS.some_l, List.length_set, List.length_append, List.length_cons, List.length_nil, z8] at * <;> first | with_reducible assumption | omega) | (simp at * <;> omega)) (by first | assumption | omega | (simp only [z8] at * <;> omega) | (simp only [GS.some_l, List.length_set, List.length_append, List.length_cons, List.length_nil] at * <;> first | with_reducible assumption | omega) | (simp only [GS.some_l, List.length_set, List.length_append, List.length_cons, List.length_nil, z8] at * <;> first | with_reducible assumption | omega) | (simp at * <;> omega))) (by kernel_rfl)
theorem ivt_orders_Closed_6 (e : S_Estate) (q6_0 : Int) (q6_1 : Int) : ∀ (rest6 : List S_Item) (i6 : Nat) (v6_0 : List S_Item) (hd6 : e.items.l.drop i6 = rest6) (hi6 : i6 ≤ e.items.l.length) (hl6_v6_0 : v6_0.length = e.items.l.length) (hL6 : e.items.l.length ≤ 9223372036854775807), iv_orders_Closed_6 e q6_0 q6_1 (zX e rest6 i6 v6_0) := by
  intro rest6
  induction rest6 with
  | nil =>
    intro i6 v6_0 hd6 hi6 hl6_v6_0 hL6
    unfold zX
    obtain rfl : i6 = e.items.l.length := nil_eq hd6 hi6
    exact hl6_v6_0
  | cons x6 rest6 ih =>
    intro i6 v6_0 hd6 hi6 hl6_v6_0 hL6
    have hlt6 := zv hd6
    unfold zX
    exact ih (i6 + 1) (v6_0.set i6 (⟨(orders_part e ((i6 : Nat) : Int)), (v6_0.getD i6 default).cost, (v6_0.getD i6 default).error⟩ : S_Item)) (zA hd6) (zv hd6) (by first | assumption | omega | (simp only [z8] at * <;> omega) | (simp only [GS.some_l, List.length_set, List.length_append, List.length_cons, List.length_nil] at * <;> first | with_reducible assumption | omega) | (simp only [GS.some_l, List.length_set, List.length_append, List.length_cons, List.length_nil, z8] at * <;> first | with_reducible assumption | omega) | (simp at * <;> omega)) (by first | assumption | omega | (simp only [z8] at * <;> omega) | (simp only [GS.some_l, List.length_set, List.length_append, List.length_cons, List.length_nil] at * <;> first | with_reducible assumption | omega) | (simp only [GS.some_l, List.length_set, List.length_append, List.length_cons, List.length_nil, z8] at * <;> first | with_reducible assumption | omega) | (simp at * <;> omega))

def zG (e : S_Estate) : S_Estate × Int :=
  bif (((zr e).2) != 0) then
    ((⟨GS.nil, (⟨0, 0⟩ : S_Span)⟩ : S_Estate), ((zr e).2))
  else
    match zX e e.items.l 0 e.items.l with
    | .x0 v6_0 =>
      ((⟨GS.some v6_0, ((zr e).1)⟩ : S_Estate), 0)

def sd7 (e : S_Estate) : St := ⟨38, [(1, .lref 0 0 3 0), (2, .lref 1 0 3 0), (6, .lref 2 0 3 0), (24, I ((e.items.l.length : Nat) : Int)), (25, I 0)], [(0, ⟨[.agg [.sl e.items.nl (e.items.l.map S_Item.D) (zsl e.items.nl 4) none, I e.whole.lo, I e.whole.hi]], 3, false⟩), (1, ⟨[.agg [.sl true [] 0 none, I 0, I 0]], 3, false⟩), (2, ⟨[.agg [.lsl 3 0 e.items.l.length 4 none, I (((zr e).1).lo), I (((zr e).1).hi)]], 3, false⟩), (3, ⟨e.items.l.map S_Item.D, 4, false⟩)], 4, 0⟩

def sd8 (e : S_Estate) (v6_0 : List S_Item) : St := ⟨38, [(26, B false), (1, .lref 0 0 3 0), (2, .lref 1 0 3 0), (6, .lref 2 0 3 0), (24, I ((e.items.l.length : Nat) : Int)), (25, I ((e.items.l.length : Nat) : Int))], [(0, ⟨[.agg [.sl e.items.nl (e.items.l.map S_Item.D) (zsl e.items.nl 4) none, I e.whole.lo, I e.whole.hi]], 3, false⟩), (1, ⟨[.agg [.sl true [] 0 none, I 0, I 0]], 3, false⟩), (2, ⟨[.agg [.lsl 3 0 e.items.l.length 4 none, I (((zr e).1).lo), I (((zr e).1).hi)]], 3, false⟩), (3, ⟨v6_0.map S_Item.D, 4, false⟩)], 4, 0⟩

def sd6 (e : S_Estate) : St := ⟨38, [(25, I 0), (24, I ((e.items.l.length : Nat) : Int)), (23, .lsl 4 0 e.items.l.length 4 none), (22, .lref 5 0 3 0), (6, .lref 5 0 3 0), (21, .agg [.lsl 4 0 e.items.l.length 4 none, I (((zr e).1).lo), I (((zr e).1).hi)]), (20, .agg [I (((zr e).1).lo), I (((zr e).1).hi)]), (19, .lsl 4 0 e.items.l.length 4 none), (18, .sl e.items.nl (e.items.l.map S_Item.D) (zsl e.items.nl 4) none), (17, .lref 0 0 3 0), (14, B false), (13, I ((zr e).2)), (5, I ((zr e).2)), (4, .lref 2 0 2 0), (12, I ((zr e).2)), (11, .agg [I (((zr e).1).lo), I (((zr e).1).hi)]), (8, .tup [.agg [I (((zr e).1).lo), I (((zr e).1).hi)], I ((zr e).2)]), (10, .tup [.agg [I (((zr e).1).lo), I (((zr e).1).hi)], I ((zr e).2)]), (9, .agg [.sl e.items.nl (e.items.l.map S_Item.D) (zsl e.items.nl 4) none, I e.whole.lo, I e.whole.hi]), (3, I 0), (2, .lref 1 0 3 0), (1, .lref 0 0 3 0), (0, .agg [.sl e.items.nl (e.items.l.map S_Item.D) (zsl e.items.nl 4) none, I e.whole.lo, I e.whole.hi])], [(0, ⟨[.agg [.sl e.items.nl (e.items.l.map S_Item.D) (zsl e.items.nl 4) none, I e.whole.lo, I e.whole.hi]], 3, false⟩), (1, ⟨[.agg [.sl true [] 0 none, I 0, I 0]], 3, false⟩), (2, ⟨[.agg [I (((zr e).1).lo), I (((zr e).1).hi)]], 2, false⟩), (3, ⟨[], 4, false⟩), (4, ⟨e.items.l.map S_Item.D, 4, false⟩), (5, ⟨[.agg [.lsl 4 0 e.items.l.length 4 none, I (((zr e).1).lo), I (((zr e).1).hi)]], 3, false⟩)], 6, 0⟩

theorem clone85_3 (s : GS S_Item) (h : s.l ≠ []) (hb : s.l.length ≤ 1073741824) : (lim cfg).inl 85 [GS.D S_Item.D 4 s] [] 3 = some (.lsl 4 0 s.l.length 4 none, [(3, ⟨[], 4, false⟩), (4, ⟨s.l.map S_Item.D, 4, false⟩)], 5) :=
  po_inl [.op (some 4) ⟨B false, [], [], 3⟩, .dec false, .op (some 7) ⟨.lsl 4 0 s.l.length 4 none, [(4, some ⟨s.l.map S_Item.D, 4, false⟩)], [3], 5⟩]
    (And.intro (app_deep (te := ty69) (gO := zE [(3, ⟨[], 4, false⟩)]) (nxt := 4) (o := 3) (fz := false) zi s h (nonnil h) (by kernel_rfl) rfl (by kernel_rfl) (by decide) ⟨by simp [ty69, big]; omega, by simp [big]; omega⟩) (And.intro (Eq.refl false) (And.intro (nil_eql (C := cfg) (t := 22) (cst := true) (sz := zsl s.nl 4) (cap := none) (els := s.l.map S_Item.D) (nxt := 3) (nonnil h) (by kernel_rfl)) trivial))) (by kernel_rfl)

theorem T_orders_Closed (e : S_Estate) : (lim cfg).pure 39 [S_Estate.D e] = some (.tup [S_Estate.D ((zG e).1), I ((zG e).2)]) := by
  unfold zG
  cases h1 : (((zr e).2) != 0) with
  | true =>
    have g1 := y0 h1
    exact zh [.pure (.tup [.agg [I (((zr e).1).lo), I (((zr e).1).hi)], I ((zr e).2)]), .dec true] (And.intro h1 (And.intro (T_orders_Sum e) trivial)) (by kernel_rfl)
  | false =>
    have g1 := check_len (sum_ok (zF h1))
    cases h2 : zX e e.items.l 0 e.items.l with
    | x0 v6_0 =>
      try dsimp only
      have hv_h2 := ivt_orders_Closed_6 e (((zr e).1).lo) (((zr e).1).hi) e.items.l 0 e.items.l (List.drop_zero) (Nat.zero_le _) (by first | assumption | omega | (simp only [z8] at * <;> omega) | (simp only [GS.some_l, List.length_set, List.length_append, List.length_cons, List.length_nil] at * <;> first | with_reducible assumption | omega) | (simp only [GS.some_l, List.length_set, List.length_append, List.length_cons, List.length_nil, z8] at * <;> first | with_reducible assumption | omega) | (simp at * <;> omega)) (by first | assumption | omega | (simp only [z8] at * <;> omega) | (simp only [GS.some_l, List.length_set, List.length_append, List.length_cons, List.length_nil] at * <;> first | with_reducible assumption | omega) | (simp only [GS.some_l, List.length_set, List.length_append, List.length_cons, List.length_nil, z8] at * <;> first | with_reducible assumption | omega) | (simp at * <;> omega))
      rw [h2] at hv_h2
      have hv_h2_0 := hv_h2
      try dsimp only [iv_orders_Closed_6] at hv_h2_0
      exact po_pureS [.pure (.tup [.agg [I (((zr e).1).lo), I (((zr e).1).hi)], I ((zr e).2)]), .dec false, .inl (.lsl 4 0 e.items.l.length 4 none) [(3, ⟨[], 4, false⟩), (4, ⟨e.items.l.map S_Item.D, 4, false⟩)] 5, .gloop (sd7 e) (.exit 0) (sd8 e v6_0)] [(3, .sl false (v6_0.map S_Item.D) 4 none, [3])] (And.intro (snap_row (gO := zE [(0, ⟨[.agg [.sl e.items.nl (e.items.l.map S_Item.D) (zsl e.items.nl 4) none, I e.whole.lo, I e.whole.hi]], 3, false⟩), (1, ⟨[.agg [.lsl 3 0 e.items.l.length 4 none, I (((zr e).1).lo), I (((zr e).1).hi)]], 3, false⟩), (2, ⟨[.agg [.lsl 3 0 e.items.l.length 4 none, I (((zr e).1).lo), I (((zr e).1).hi)]], 3, false⟩), (3, ⟨v6_0.map S_Item.D, 4, false⟩)]) (o := 3) (len := e.items.l.length) (cap := none) (fz := false) zi v6_0 (by kernel_rfl) (by first | assumption | omega | (simp only [z8] at * <;> omega) | (simp only [GS.some_l, List.length_set, List.length_append, List.length_cons, List.length_nil] at * <;> first | with_reducible assumption | omega) | (simp only [GS.some_l, List.length_set, List.length_append, List.length_cons, List.length_nil, z8] at * <;> first | with_reducible assumption | omega) | (simp at * <;> omega))) (And.intro (po_lr (q := lr_orders_Closed_6 e (((zr e).1).lo) (((zr e).1).hi)) (lp_orders_Closed_6 e (((zr e).1).lo) (((zr e).1).hi) e.items.l 0 e.items.l (List.drop_zero) (Nat.zero_le _) (by first | assumption | omega | (simp only [z8] at * <;> omega) | (simp only [GS.some_l, List.length_set, List.length_append, List.length_cons, List.length_nil] at * <;> first | with_reducible assumption | omega) | (simp only [GS.some_l, List.length_set, List.length_append, List.length_cons, List.length_nil, z8] at * <;> first | with_reducible assumption | omega) | (simp at * <;> omega)) (by first | assumption | omega | (simp only [z8] at * <;> omega) | (simp only [GS.some_l, List.length_set, List.length_append, List.length_cons, List.length_nil] at * <;> first | with_reducible assumption | omega) | (simp only [GS.some_l, List.length_set, List.length_append, List.length_cons, List.length_nil, z8] at * <;> first | with_reducible assumption | omega) | (simp at * <;> omega))) h2) (And.intro (gc_of (C := cfg) (f := 39) (a := lp39_6) (ks := [1, 2, 6, 24, 25]) (st := (sd6 e)) (st1 := (sd7 e)) (by kernel_rfl) (by (simp only [sd6, sd7, go_sem, Nat.reduceAdd, Nat.reduceEqDiff, Nat.reduceLT, Nat.reduceLeDiff, bI2, zN.idsL, zN.renL, zN.snapAll, zi.idsL, zi.renL, zi.snapAll]) <;> rfl)) (And.intro (clone85_3 e.items (ne_of_len (by first | assumption | omega | (simp only [z8] at * <;> omega) | (simp only [GS.some_l, List.length_set, List.length_append, List.length_cons, List.length_nil] at * <;> first | with_reducible assumption | omega) | (simp only [GS.some_l, List.length_set, List.length_append, List.length_cons, List.length_nil, z8] at * <;> first | with_reducible assumption | omega) | (simp at * <;> omega))) (by first | assumption | omega | (simp only [z8] at * <;> omega) | (simp only [GS.some_l, List.length_set, List.length_append, List.length_cons, List.length_nil] at * <;> first | with_reducible assumption | omega) | (simp only [GS.some_l, List.length_set, List.length_append, List.length_cons, List.length_nil, z8] at * <;> first | with_reducible assumption | omega) | (simp at * <;> omega))) (And.intro h1 (And.intro (T_orders_Sum e) trivial)))))) (by kernel_rfl)
end Go.VS
namespace Go.VS
open Go Go.Proofs
set_option maxHeartbeats 0
set_option linter.unusedSimpArgs false
set_option linter.unusedVariables false
theorem sane_ok : (lim cfg).pure 7 [] = some (B true) := lim_pure.2 ⟨40, by kernel_rfl⟩
end Go.VS
namespace Go.VS
open Go Go.Proofs
set_option maxHeartbeats 0
set_option linter.unusedSimpArgs false
set_option linter.unusedVariables false
theorem closed_len {e : S_Estate} (h : (zG e).2 = 0) : (zG e).1.items.l.length = e.items.l.length := by
  have key : ∀ (l : List S_Item) (i : Nat) (v : List S_Item), ∃ w, zX e l i v = .x0 w ∧ w.length = v.length := by
    intro l
    induction l with
    | nil => intro i v; exact ⟨v, rfl, rfl⟩
    | cons x l ih => intro i v; obtain ⟨w, h1, h2⟩ := ih (i + 1) (v.set i (⟨(orders_part e ((i : Nat) : Int)), (v.getD i default).cost, (v.getD i default).error⟩ : S_Item)); exact ⟨w, h1, by rw [h2, List.length_set]⟩
  unfold zG at h ⊢
  cases h1 : ((zr e).2 != 0) with
  | true => rw [h1] at h; simp only [cond_true] at h; rw [bne_iff_ne] at h1; omega
  | false =>
    obtain ⟨w, h2, h3⟩ := key e.items.l 0 e.items.l
    simp only [cond_false, h2]
    exact h3

noncomputable def lp74_3 : Code := subC [1, 1, 0, 1, 0, 0] (bodyC Tryz.f74)

inductive LR_r_All_3 where
  | x0 (v3_0 : Int) (v3_1 : Int)
instance : Inhabited LR_r_All_3 := ⟨.x0 default default⟩
def r_All_3 : List S_Item → Int → Int → LR_r_All_3
  | [], v3_0, v3_1 => .x0 v3_0 v3_1
  | x3 :: rest3, v3_0, v3_1 =>
    r_All_3 rest3 (w64 (v3_0 + x3.now.lo)) (w64 (v3_1 + x3.now.hi))
def lr_r_All_3 (e : S_Estate) : LR_r_All_3 → Exit × St
  | .x0 v3_0 v3_1 => ((.exit 0), ⟨36, [(10, B false), (9, I ((e.items.l.length : Nat) : Int)), (8, .sl e.items.nl (e.items.l.map S_Item.D) (zsl e.items.nl 4) none), (7, .lref 0 0 3 0), (6, I ((e.items.l.length : Nat) : Int)), (1, .lref 0 0 3 0), (2, .lref 1 0 2 0), (3, .lref 2 0 2 0), (4, I ((e.items.l.length : Nat) : Int))], [(0, ⟨[.agg [.sl e.items.nl (e.items.l.map S_Item.D) (zsl e.items.nl 4) none, I e.whole.lo, I e.whole.hi]], 3, false⟩), (1, ⟨[.agg [I 0, I 0]], 2, false⟩), (2, ⟨[.agg [I v3_0, I v3_1]], 2, false⟩)], 3, 0⟩)
theorem lp_r_All_3 (e : S_Estate) : ∀ (rest3 : List S_Item) (i3 : Nat) (v3_0 : Int) (v3_1 : Int) (hd3 : e.items.l.drop i3 = rest3) (hi3 : i3 ≤ e.items.l.length) (hL3 : e.items.l.length ≤ 9223372036854775807), (lim cfg).loop 74 lp74_3 ⟨36, [(1, .lref 0 0 3 0), (2, .lref 1 0 2 0), (3, .lref 2 0 2 0), (4, I ((i3 : Nat) : Int))], [(0, ⟨[.agg [.sl e.items.nl (e.items.l.map S_Item.D) (zsl e.items.nl 4) none, I e.whole.lo, I e.whole.hi]], 3, false⟩), (1, ⟨[.agg [I 0, I 0]], 2, false⟩), (2, ⟨[.agg [I v3_0, I v3_1]], 2, false⟩)], 3, 0⟩ = some (lr_r_All_3 e (r_All_3 rest3 v3_0 v3_1)) := by
  intro rest3
  induction rest3 with
  | nil =>
    intro i3 v3_0 v3_1 hd3 hi3 hL3
    unfold r_All_3
    obtain rfl : i3 = e.items.l.length := nil_eq hd3 hi3
    exact zH [.rw 9 (I ((e.items.l.length : Nat) : Int)), .dec false] (And.intro (lt_no hd3) (And.intro (zn S_Item.D e.items) trivial)) (by kernel_rfl)
  | cons x3 rest3 ih =>
    intro i3 v3_0 v3_1 hd3 hi3 hL3
    have hlt3 := zv hd3
    unfold r_All_3
    exact po_turn [.rw 9 (I ((e.items.l.length : Nat) : Int)), .dec true, .el (.agg [I x3.now.lo, I x3.now.hi, I x3.cost, I x3.error]), .el (.agg [I x3.now.lo, I x3.now.hi, I x3.cost, I x3.error]), .rw 12 (I ((i3 + 1 : Nat) : Int))] (And.intro (inc_rw (i := i3) (by have := zv hd3; omega)) (And.intro (el_at (s := e.items) (f := S_Item.D) (k := 4) hd3) (And.intro (el_at (s := e.items) (f := S_Item.D) (k := 4) hd3) (And.intro (lt_at hd3) (And.intro (zn S_Item.D e.items) trivial))))) (ih (i3 + 1) (w64 (v3_0 + x3.now.lo)) (w64 (v3_1 + x3.now.hi)) (zA hd3) (zv hd3) (by first | assumption | omega | (simp only [z8] at * <;> omega) | (simp only [GS.some_l, List.length_set, List.length_append, List.length_cons, List.length_nil] at * <;> first | with_reducible assumption | omega) | (simp only [GS.some_l, List.length_set, List.length_append, List.length_cons, List.length_nil, z8] at * <;> first | with_reducible assumption | omega) | (simp at * <;> omega))) (by kernel_rfl)

def r_All (e : S_Estate) : S_Span :=
  match r_All_3 e.items.l 0 0 with
  | .x0 v3_0 v3_1 =>
    (⟨v3_0, v3_1⟩ : S_Span)

def sd9 (e : S_Estate) (v3_0 : Int) (v3_1 : Int) : St := ⟨36, [(10, B false), (9, I ((e.items.l.length : Nat) : Int)), (8, .sl e.items.nl (e.items.l.map S_Item.D) (zsl e.items.nl 4) none), (7, .lref 0 0 3 0), (6, I ((e.items.l.length : Nat) : Int)), (1, .lref 0 0 3 0), (2, .lref 1 0 2 0), (3, .lref 2 0 2 0), (4, I ((e.items.l.length : Nat) : Int))], [(0, ⟨[.agg [.sl e.items.nl (e.items.l.map S_Item.D) (zsl e.items.nl 4) none, I e.whole.lo, I e.whole.hi]], 3, false⟩), (1, ⟨[.agg [I 0, I 0]], 2, false⟩), (2, ⟨[.agg [I v3_0, I v3_1]], 2, false⟩)], 3, 0⟩

theorem T_r_All (e : S_Estate) (hL_e_items : e.items.l.length ≤ 9223372036854775807) : (lim cfg).pure 74 [S_Estate.D e] = some (S_Span.D (r_All e)) := by
  unfold r_All
  cases h1 : r_All_3 e.items.l 0 0 with
  | x0 v3_0 v3_1 =>
    try dsimp only
    exact zh [.loop (.exit 0) (sd9 e v3_0 v3_1)] (And.intro (po_lr (q := lr_r_All_3 e) (lp_r_All_3 e e.items.l 0 0 0 (List.drop_zero) (Nat.zero_le _) (by first | assumption | omega | (simp only [z8] at * <;> omega) | (simp only [GS.some_l, List.length_set, List.length_append, List.length_cons, List.length_nil] at * <;> first | with_reducible assumption | omega) | (simp only [GS.some_l, List.length_set, List.length_append, List.length_cons, List.length_nil, z8] at * <;> first | with_reducible assumption | omega) | (simp at * <;> omega))) h1) trivial) (by kernel_rfl)

noncomputable def lp54_4 : Code := subC [1, 1, 0, 1, 0, 0] (bodyC Tryz.f54)

inductive LR_r_Valid_4 where
  | x0
  | x1 (i4 : Nat) (x4 : S_Item)
  | x2 (i4 : Nat) (x4 : S_Item)
  | x3 (i4 : Nat) (x4 : S_Item)
  | x4 (i4 : Nat) (x4 : S_Item)
  | x5 (i4 : Nat) (x4 : S_Item)
  | x6 (i4 : Nat) (x4 : S_Item)
  | x7 (i4 : Nat) (x4 : S_Item)
instance : Inhabited LR_r_Valid_4 := ⟨.x0⟩
def r_Valid_4 : List S_Item → Nat → LR_r_Valid_4
  | [], i4 => .x0
  | x4 :: rest4, i4 =>
    bif decide (x4.now.lo < 0) then
      .x1 i4 x4
    else
      bif decide (x4.now.lo > x4.now.hi) then
        .x2 i4 x4
      else
        bif decide (x4.now.hi > 1073741824) then
          .x3 i4 x4
        else
          bif decide (x4.cost < 0) then
            .x4 i4 x4
          else
            bif decide (x4.cost > 10000) then
              .x5 i4 x4
            else
              bif decide (x4.error < 0) then
                .x6 i4 x4
              else
                bif decide (x4.error > 1048576) then
                  .x7 i4 x4
                else
                  r_Valid_4 rest4 (i4 + 1)
def lr_r_Valid_4 (e : S_Estate) : LR_r_Valid_4 → Exit × St
  | .x0 => ((.exit 0), ⟨104, [(41, B false), (40, I ((e.items.l.length : Nat) : Int)), (39, .sl e.items.nl (e.items.l.map S_Item.D) (zsl e.items.nl 4) none), (38, .lref 0 0 3 0), (37, I ((e.items.l.length : Nat) : Int)), (1, .lref 0 0 3 0), (3, I ((e.items.l.length : Nat) : Int))], [(0, ⟨[.agg [.sl e.items.nl (e.items.l.map S_Item.D) (zsl e.items.nl 4) none, I e.whole.lo, I e.whole.hi]], 3, false⟩)], 1, 0⟩)
  | .x1 i4 x4 => (.ret, ⟨104, [(2, B false), (87, B true), (86, .tup []), (85, .tup []), (84, .tup []), (83, B true), (82, B true), (81, .tup []), (80, .tup []), (79, .tup []), (78, B true), (77, B true), (76, .tup []), (75, .tup []), (74, .tup []), (73, B true), (72, B true), (71, .tup []), (70, .tup []), (69, .tup []), (68, B true), (67, B true), (66, .tup []), (65, .tup []), (64, .tup []), (63, .tup []), (62, B true), (61, B true), (60, .tup []), (59, .tup []), (58, .tup []), (57, .tup []), (56, .tup []), (55, .tup []), (54, .tup []), (53, B true), (52, B true), (51, I x4.now.lo), (50, .lref 1 0 4 0), (49, .lref 1 0 4 0), (4, .lref 1 0 4 0), (48, .agg [I x4.now.lo, I x4.now.hi, I x4.cost, I x4.error]), (47, .ptr (.agg [I x4.now.lo, I x4.now.hi, I x4.cost, I x4.error])), (46, I ((i4 : Nat) : Int)), (45, .sl e.items.nl (e.items.l.map S_Item.D) (zsl e.items.nl 4) none), (44, .lref 0 0 3 0), (41, B true), (40, I ((e.items.l.length : Nat) : Int)), (39, .sl e.items.nl (e.items.l.map S_Item.D) (zsl e.items.nl 4) none), (38, .lref 0 0 3 0), (37, I ((i4 : Nat) : Int)), (1, .lref 0 0 3 0), (3, I ((i4 : Nat) : Int))], [(0, ⟨[.agg [.sl e.items.nl (e.items.l.map S_Item.D) (zsl e.items.nl 4) none, I e.whole.lo, I e.whole.hi]], 3, false⟩), (1, ⟨[.agg [I x4.now.lo, I x4.now.hi, I x4.cost, I x4.error]], 4, false⟩)], 2, 0⟩)
  | .x2 i4 x4 => (.ret, ⟨104, [(2, B false), (87, B true), (86, .tup []), (85, .tup []), (84, .tup []), (83, B true), (82, B true), (81, .tup []), (80, .tup []), (79, .tup []), (78, B true), (77, B true), (76, .tup []), (75, .tup []), (74, .tup []), (73, B true), (72, B true), (71, .tup []), (70, .tup []), (69, .tup []), (68, B true), (67, B true), (66, .tup []), (65, .tup []), (64, .tup []), (63, .tup []), (62, B true), (61, B true), (60, B true), (59, I x4.now.hi), (58, .lref 1 0 4 1), (57, .lref 1 0 4 0), (56, I x4.now.lo), (55, .lref 1 0 4 0), (54, .lref 1 0 4 0), (53, B false), (52, B false), (51, I x4.now.lo), (50, .lref 1 0 4 0), (49, .lref 1 0 4 0), (4, .lref 1 0 4 0), (48, .agg [I x4.now.lo, I x4.now.hi, I x4.cost, I x4.error]), (47, .ptr (.agg [I x4.now.lo, I x4.now.hi, I x4.cost, I x4.error])), (46, I ((i4 : Nat) : Int)), (45, .sl e.items.nl (e.items.l.map S_Item.D) (zsl e.items.nl 4) none), (44, .lref 0 0 3 0), (41, B true), (40, I ((e.items.l.length : Nat) : Int)), (39, .sl e.items.nl (e.items.l.map S_Item.D) (zsl e.items.nl 4) none), (38, .lref 0 0 3 0), (37, I ((i4 : Nat) : Int)), (1, .lref 0 0 3 0), (3, I ((i4 : Nat) : Int))], [(0, ⟨[.agg [.sl e.items.nl (e.items.l.map S_Item.D) (zsl e.items.nl 4) none, I e.whole.lo, I e.whole.hi]], 3, false⟩), (1, ⟨[.agg [I x4.now.lo, I x4.now.hi, I x4.cost, I x4.error]], 4, false⟩)], 2, 0⟩)
  | .x3 i4 x4 => (.ret, ⟨104, [(2, B false), (87, B true), (86, .tup []), (85, .tup []), (84, .tup []), (83, B true), (82, B true), (81, .tup []), (80, .tup []), (79, .tup []), (78, B true), (77, B true), (76, .tup []), (75, .tup []), (74, .tup []), (73, B true), (72, B true), (71, .tup []), (70, .tup []), (69, .tup []), (68, B true), (67, B true), (66, B true), (65, I x4.now.hi), (64, .lref 1 0 4 1), (63, .lref 1 0 4 0), (62, B false), (61, B false), (60, B false), (59, I x4.now.hi), (58, .lref 1 0 4 1), (57, .lref 1 0 4 0), (56, I x4.now.lo), (55, .lref 1 0 4 0), (54, .lref 1 0 4 0), (53, B false), (52, B false), (51, I x4.now.lo), (50, .lref 1 0 4 0), (49, .lref 1 0 4 0), (4, .lref 1 0 4 0), (48, .agg [I x4.now.lo, I x4.now.hi, I x4.cost, I x4.error]), (47, .ptr (.agg [I x4.now.lo, I x4.now.hi, I x4.cost, I x4.error])), (46, I ((i4 : Nat) : Int)), (45, .sl e.items.nl (e.items.l.map S_Item.D) (zsl e.items.nl 4) none), (44, .lref 0 0 3 0), (41, B true), (40, I ((e.items.l.length : Nat) : Int)), (39, .sl e.items.nl (e.items.l.map S_Item.D) (zsl e.items.nl 4) none), (38, .lref 0 0 3 0), (37, I ((i4 : Nat) : Int)), (1, .lref 0 0 3 0), (3, I ((i4 : Nat) : Int))], [(0, ⟨[.agg [.sl e.items.nl (e.items.l.map S_Item.D) (zsl e.items.nl 4) none, I e.whole.lo, I e.whole.hi]], 3, false⟩), (1, ⟨[.agg [I x4.now.lo, I x4.now.hi, I x4.cost, I x4.error]], 4, false⟩)], 2, 0⟩)
  | .x4 i4 x4 => (.ret, ⟨104, [(2, B false), (87, B true), (86, .tup []), (85, .tup []), (84, .tup []), (83, B true), (82, B true), (81, .tup []), (80, .tup []), (79, .tup []), (78, B true), (77, B true), (76, .tup []), (75, .tup []), (74, .tup []), (73, B true), (72, B true), (71, B true), (70, I x4.cost), (69, .lref 1 0 4 2), (68, B false), (67, B false), (66, B false), (65, I x4.now.hi), (64, .lref 1 0 4 1), (63, .lref 1 0 4 0), (62, B false), (61, B false), (60, B false), (59, I x4.now.hi), (58, .lref 1 0 4 1), (57, .lref 1 0 4 0), (56, I x4.now.lo), (55, .lref 1 0 4 0), (54, .lref 1 0 4 0), (53, B false), (52, B false), (51, I x4.now.lo), (50, .lref 1 0 4 0), (49, .lref 1 0 4 0), (4, .lref 1 0 4 0), (48, .agg [I x4.now.lo, I x4.now.hi, I x4.cost, I x4.error]), (47, .ptr (.agg [I x4.now.lo, I x4.now.hi, I x4.cost, I x4.error])), (46, I ((i4 : Nat) : Int)), (45, .sl e.items.nl (e.items.l.map S_Item.D) (zsl e.items.nl 4) none), (44, .lref 0 0 3 0), (41, B true), (40, I ((e.items.l.length : Nat) : Int)), (39, .sl e.items.nl (e.items.l.map S_Item.D) (zsl e.items.nl 4) none), (38, .lref 0 0 3 0), (37, I ((i4 : Nat) : Int)), (1, .lref 0 0 3 0), (3, I ((i4 : Nat) : Int))], [(0, ⟨[.agg [.sl e.items.nl (e.items.l.map S_Item.D) (zsl e.items.nl 4) none, I e.whole.lo, I e.whole.hi]], 3, false⟩), (1, ⟨[.agg [I x4.now.lo, I x4.now.hi, I x4.cost, I x4.error]], 4, false⟩)], 2, 0⟩)
  | .x5 i4 x4 => (.ret, ⟨104, [(2, B false), (87, B true), (86, .tup []), (85, .tup []), (84, .tup []), (83, B true), (82, B true), (81, .tup []), (80, .tup []), (79, .tup []), (78, B true), (77, B true), (76, B true), (75, I x4.cost), (74, .lref 1 0 4 2), (73, B false), (72, B false), (71, B false), (70, I x4.cost), (69, .lref 1 0 4 2), (68, B false), (67, B false), (66, B false), (65, I x4.now.hi), (64, .lref 1 0 4 1), (63, .lref 1 0 4 0), (62, B false), (61, B false), (60, B false), (59, I x4.now.hi), (58, .lref 1 0 4 1), (57, .lref 1 0 4 0), (56, I x4.now.lo), (55, .lref 1 0 4 0), (54, .lref 1 0 4 0), (53, B false), (52, B false), (51, I x4.now.lo), (50, .lref 1 0 4 0), (49, .lref 1 0 4 0), (4, .lref 1 0 4 0), (48, .agg [I x4.now.lo, I x4.now.hi, I x4.cost, I x4.error]), (47, .ptr (.agg [I x4.now.lo, I x4.now.hi, I x4.cost, I x4.error])), (46, I ((i4 : Nat) : Int)), (45, .sl e.items.nl (e.items.l.map S_Item.D) (zsl e.items.nl 4) none), (44, .lref 0 0 3 0), (41, B true), (40, I ((e.items.l.length : Nat) : Int)), (39, .sl e.items.nl (e.items.l.map S_Item.D) (zsl e.items.nl 4) none), (38, .lref 0 0 3 0), (37, I ((i4 : Nat) : Int)), (1, .lref 0 0 3 0), (3, I ((i4 : Nat) : Int))], [(0, ⟨[.agg [.sl e.items.nl (e.items.l.map S_Item.D) (zsl e.items.nl 4) none, I e.whole.lo, I e.whole.hi]], 3, false⟩), (1, ⟨[.agg [I x4.now.lo, I x4.now.hi, I x4.cost, I x4.error]], 4, false⟩)], 2, 0⟩)
  | .x6 i4 x4 => (.ret, ⟨104, [(2, B false), (87, B true), (86, .tup []), (85, .tup []), (84, .tup []), (83, B true), (82, B true), (81, B true), (80, I x4.error), (79, .lref 1 0 4 3), (78, B false), (77, B false), (76, B false), (75, I x4.cost), (74, .lref 1 0 4 2), (73, B false), (72, B false), (71, B false), (70, I x4.cost), (69, .lref 1 0 4 2), (68, B false), (67, B false), (66, B false), (65, I x4.now.hi), (64, .lref 1 0 4 1), (63, .lref 1 0 4 0), (62, B false), (61, B false), (60, B false), (59, I x4.now.hi), (58, .lref 1 0 4 1), (57, .lref 1 0 4 0), (56, I x4.now.lo), (55, .lref 1 0 4 0), (54, .lref 1 0 4 0), (53, B false), (52, B false), (51, I x4.now.lo), (50, .lref 1 0 4 0), (49, .lref 1 0 4 0), (4, .lref 1 0 4 0), (48, .agg [I x4.now.lo, I x4.now.hi, I x4.cost, I x4.error]), (47, .ptr (.agg [I x4.now.lo, I x4.now.hi, I x4.cost, I x4.error])), (46, I ((i4 : Nat) : Int)), (45, .sl e.items.nl (e.items.l.map S_Item.D) (zsl e.items.nl 4) none), (44, .lref 0 0 3 0), (41, B true), (40, I ((e.items.l.length : Nat) : Int)), (39, .sl e.items.nl (e.items.l.map S_Item.D) (zsl e.items.nl 4) none), (38, .lref 0 0 3 0), (37, I ((i4 : Nat) : Int)), (1, .lref 0 0 3 0), (3, I ((i4 : Nat) : Int))], [(0, ⟨[.agg [.sl e.items.nl (e.items.l.map S_Item.D) (zsl e.items.nl 4) none, I e.whole.lo, I e.whole.hi]], 3, false⟩), (1, ⟨[.agg [I x4.now.lo, I x4.now.hi, I x4.cost, I x4.error]], 4, false⟩)], 2, 0⟩)
  | .x7 i4 x4 => (.ret, ⟨104, [(2, B false), (87, B true), (86, B true), (85, I x4.error), (84, .lref 1 0 4 3), (83, B false), (82, B false), (81, B false), (80, I x4.error), (79, .lref 1 0 4 3), (78, B false), (77, B false), (76, B false), (75, I x4.cost), (74, .lref 1 0 4 2), (73, B false), (72, B false), (71, B false), (70, I x4.cost), (69, .lref 1 0 4 2), (68, B false), (67, B false), (66, B false), (65, I x4.now.hi), (64, .lref 1 0 4 1), (63, .lref 1 0 4 0), (62, B false), (61, B false), (60, B false), (59, I x4.now.hi), (58, .lref 1 0 4 1), (57, .lref 1 0 4 0), (56, I x4.now.lo), (55, .lref 1 0 4 0), (54, .lref 1 0 4 0), (53, B false), (52, B false), (51, I x4.now.lo), (50, .lref 1 0 4 0), (49, .lref 1 0 4 0), (4, .lref 1 0 4 0), (48, .agg [I x4.now.lo, I x4.now.hi, I x4.cost, I x4.error]), (47, .ptr (.agg [I x4.now.lo, I x4.now.hi, I x4.cost, I x4.error])), (46, I ((i4 : Nat) : Int)), (45, .sl e.items.nl (e.items.l.map S_Item.D) (zsl e.items.nl 4) none), (44, .lref 0 0 3 0), (41, B true), (40, I ((e.items.l.length : Nat) : Int)), (39, .sl e.items.nl (e.items.l.map S_Item.D) (zsl e.items.nl 4) none), (38, .lref 0 0 3 0), (37, I ((i4 : Nat) : Int)), (1, .lref 0 0 3 0), (3, I ((i4 : Nat) : Int))], [(0, ⟨[.agg [.sl e.items.nl (e.items.l.map S_Item.D) (zsl e.items.nl 4) none, I e.whole.lo, I e.whole.hi]], 3, false⟩), (1, ⟨[.agg [I x4.now.lo, I x4.now.hi, I x4.cost, I x4.error]], 4, false⟩)], 2, 0⟩)
def r_Valid_4_l_o1 (e : S_Estate) (x4 : S_Item) : List Ora := [.rw 40 (I ((e.items.l.length : Nat) : Int)), .dec true, .el (.agg [I x4.now.lo, I x4.now.hi, I x4.cost, I x4.error]), .dec false]
theorem lp_r_Valid_4 (e : S_Estate) : ∀ (rest4 : List S_Item) (i4 : Nat) (hd4 : e.items.l.drop i4 = rest4) (hi4 : i4 ≤ e.items.l.length) (hL4 : e.items.l.length ≤ 9223372036854775807), (lim cfg).loop 54 lp54_4 ⟨104, [(1, .lref 0 0 3 0), (3, I ((i4 : Nat) : Int))], [(0, ⟨[.agg [.sl e.items.nl (e.items.l.map S_Item.D) (zsl e.items.nl 4) none, I e.whole.lo, I e.whole.hi]], 3, false⟩)], 1, 0⟩ = some (lr_r_Valid_4 e (r_Valid_4 rest4 i4)) := by
  intro rest4
  induction rest4 with
  | nil =>
    intro i4 hd4 hi4 hL4
    unfold r_Valid_4
    obtain rfl : i4 = e.items.l.length := nil_eq hd4 hi4
    exact zH [.rw 40 (I ((e.items.l.length : Nat) : Int)), .dec false] (And.intro (lt_no hd4) (And.intro (zn S_Item.D e.items) trivial)) (by kernel_rfl)
  | cons x4 rest4 ih =>
    intro i4 hd4 hi4 hL4
    have hlt4 := zv hd4
    unfold r_Valid_4
    have p1 := (el_at (s := e.items) (f := S_Item.D) (k := 4) hd4)
    cases h13 : decide (x4.now.lo < 0) with
    | true =>
      have g13 := of_decide_eq_true h13
      exact zH [.rw 40 (I ((e.items.l.length : Nat) : Int)), .dec true, .el (.agg [I x4.now.lo, I x4.now.hi, I x4.cost, I x4.error]), .dec true] (And.intro h13 (And.intro p1 (And.intro (lt_at hd4) (And.intro (zn S_Item.D e.items) trivial)))) (by kernel_rfl)
    | false =>
      have g13 := of_decide_eq_false h13
      cases h14 : decide (x4.now.lo > x4.now.hi) with
      | true =>
        have g14 := of_decide_eq_true h14
        exact zH ((r_Valid_4_l_o1 e x4) ++ [.dec true]) (And.intro h14 (And.intro h13 (And.intro p1 (And.intro (lt_at hd4) (And.intro (zn S_Item.D e.items) trivial))))) (by kernel_rfl)
      | false =>
        have g14 := of_decide_eq_false h14
        cases h15 : decide (x4.now.hi > 1073741824) with
        | true =>
          have g15 := of_decide_eq_true h15
          exact zH ((r_Valid_4_l_o1 e x4) ++ [.dec false, .dec true]) (And.intro h15 (And.intro h14 (And.intro h13 (And.intro p1 (And.intro (lt_at hd4) (And.intro (zn S_Item.D e.items) trivial)))))) (by kernel_rfl)
        | false =>
          have g15 := of_decide_eq_false h15
          cases h16 : decide (x4.cost < 0) with
          | true =>
            have g16 := of_decide_eq_true h16
            exact zH ((r_Valid_4_l_o1 e x4) ++ [.dec false, .dec false, .dec true]) (And.intro h16 (And.intro h15 (And.intro h14 (And.intro h13 (And.intro p1 (And.intro (lt_at hd4) (And.intro (zn S_Item.D e.items) trivial))))))) (by kernel_rfl)
          | false =>
            have g16 := of_decide_eq_false h16
            cases h17 : decide (x4.cost > 10000) with
            | true =>
              have g17 := of_decide_eq_true h17
              exact zH ((r_Valid_4_l_o1 e x4) ++ [.dec false, .dec false, .dec false, .dec true]) (And.intro h17 (And.intro h16 (And.intro h15 (And.intro h14 (And.intro h13 (And.intro p1 (And.intro (lt_at hd4) (And.intro (zn S_Item.D e.items) trivial)))))))) (by kernel_rfl)
            | false =>
              have g17 := of_decide_eq_false h17
              cases h18 : decide (x4.error < 0) with
              | true =>
                have g18 := of_decide_eq_true h18
                exact zH ((r_Valid_4_l_o1 e x4) ++ [.dec false, .dec false, .dec false, .dec false, .dec true]) (And.intro h18 (And.intro h17 (And.intro h16 (And.intro h15 (And.intro h14 (And.intro h13 (And.intro p1 (And.intro (lt_at hd4) (And.intro (zn S_Item.D e.items) trivial))))))))) (by kernel_rfl)
              | false =>
                have g18 := of_decide_eq_false h18
                cases h19 : decide (x4.error > 1048576) with
                | true =>
                  have g19 := of_decide_eq_true h19
                  exact zH ((r_Valid_4_l_o1 e x4) ++ [.dec false, .dec false, .dec false, .dec false, .dec false, .dec true]) (And.intro h19 (And.intro h18 (And.intro h17 (And.intro h16 (And.intro h15 (And.intro h14 (And.intro h13 (And.intro p1 (And.intro (lt_at hd4) (And.intro (zn S_Item.D e.items) trivial)))))))))) (by kernel_rfl)
                | false =>
                  have g19 := of_decide_eq_false h19
                  exact po_turn ((r_Valid_4_l_o1 e x4) ++ [.dec false, .dec false, .dec false, .dec false, .dec false, .dec false, .rw 43 (I ((i4 + 1 : Nat) : Int))]) (And.intro (inc_rw (i := i4) (by have := zv hd4; omega)) (And.intro h19 (And.intro h18 (And.intro h17 (And.intro h16 (And.intro h15 (And.intro h14 (And.intro h13 (And.intro p1 (And.intro (lt_at hd4) (And.intro (zn S_Item.D e.items) trivial))))))))))) (ih (i4 + 1) (zA hd4) (zv hd4) (by first | assumption | omega | (simp only [z8] at * <;> omega) | (simp only [GS.some_l, List.length_set, List.length_append, List.length_cons, List.length_nil] at * <;> first | with_reducible assumption | omega) | (simp only [GS.some_l, List.length_set, List.length_append, List.length_cons, List.length_nil, z8] at * <;> first | with_reducible assumption | omega) | (simp at * <;> omega))) (by kernel_rfl)

def zR (e : S_Estate) : Bool :=
  bif decide (((e.items.l.length : Nat) : Int) < 1) then
    false
  else
    bif decide (((e.items.l.length : Nat) : Int) > 12) then
      false
    else
      bif decide (e.whole.lo < 0) then
        false
      else
        bif decide (e.whole.lo > e.whole.hi) then
          false
        else
          bif decide (e.whole.hi > 17179869184) then
            false
          else
            match r_Valid_4 e.items.l 0 with
            | .x0 =>
              bif decide (((r_All e).lo) ≤ e.whole.hi) then
                bif decide (((r_All e).hi) ≥ e.whole.lo) then
                  true
                else
                  false
              else
                false
            | .x1 i4 x4 =>
              false
            | .x2 i4 x4 =>
              false
            | .x3 i4 x4 =>
              false
            | .x4 i4 x4 =>
              false
            | .x5 i4 x4 =>
              false
            | .x6 i4 x4 =>
              false
            | .x7 i4 x4 =>
              false

def r_Valid_o1 (e : S_Estate) : List Ora := [.rw 8 (I ((e.items.l.length : Nat) : Int)), .dec false, .rw 13 (I ((e.items.l.length : Nat) : Int)), .dec false, .dec false]

def sd10 (e : S_Estate) : St := ⟨104, [(41, B false), (40, I ((e.items.l.length : Nat) : Int)), (39, .sl e.items.nl (e.items.l.map S_Item.D) (zsl e.items.nl 4) none), (38, .lref 0 0 3 0), (37, I ((e.items.l.length : Nat) : Int)), (1, .lref 0 0 3 0), (3, I ((e.items.l.length : Nat) : Int))], [(0, ⟨[.agg [.sl e.items.nl (e.items.l.map S_Item.D) (zsl e.items.nl 4) none, I e.whole.lo, I e.whole.hi]], 3, false⟩)], 1, 0⟩

def sd11 (e : S_Estate) (i4 : Nat) (x4 : S_Item) : St := ⟨104, [(2, B false), (87, B true), (86, .tup []), (85, .tup []), (84, .tup []), (83, B true), (82, B true), (81, .tup []), (80, .tup []), (79, .tup []), (78, B true), (77, B true), (76, .tup []), (75, .tup []), (74, .tup []), (73, B true), (72, B true), (71, .tup []), (70, .tup []), (69, .tup []), (68, B true), (67, B true), (66, .tup []), (65, .tup []), (64, .tup []), (63, .tup []), (62, B true), (61, B true), (60, .tup []), (59, .tup []), (58, .tup []), (57, .tup []), (56, .tup []), (55, .tup []), (54, .tup []), (53, B true), (52, B true), (51, I x4.now.lo), (50, .lref 1 0 4 0), (49, .lref 1 0 4 0), (4, .lref 1 0 4 0), (48, .agg [I x4.now.lo, I x4.now.hi, I x4.cost, I x4.error]), (47, .ptr (.agg [I x4.now.lo, I x4.now.hi, I x4.cost, I x4.error])), (46, I ((i4 : Nat) : Int)), (45, .sl e.items.nl (e.items.l.map S_Item.D) (zsl e.items.nl 4) none), (44, .lref 0 0 3 0), (41, B true), (40, I ((e.items.l.length : Nat) : Int)), (39, .sl e.items.nl (e.items.l.map S_Item.D) (zsl e.items.nl 4) none), (38, .lref 0 0 3 0), (37, I ((i4 : Nat) : Int)), (1, .lref 0 0 3 0), (3, I ((i4 : Nat) : Int))], [(0, ⟨[.agg [.sl e.items.nl (e.items.l.map S_Item.D) (zsl e.items.nl 4) none, I e.whole.lo, I e.whole.hi]], 3, false⟩), (1, ⟨[.agg [I x4.now.lo, I x4.now.hi, I x4.cost, I x4.error]], 4, false⟩)], 2, 0⟩

def sd12 (e : S_Estate) (i4 : Nat) (x4 : S_Item) : St := ⟨104, [(2, B false), (87, B true), (86, .tup []), (85, .tup []), (84, .tup []), (83, B true), (82, B true), (81, .tup []), (80, .tup []), (79, .tup []), (78, B true), (77, B true), (76, .tup []), (75, .tup []), (74, .tup []), (73, B true), (72, B true), (71, .tup []), (70, .tup []), (69, .tup []), (68, B true), (67, B true), (66, .tup []), (65, .tup []), (64, .tup []), (63, .tup []), (62, B true), (61, B true), (60, B true), (59, I x4.now.hi), (58, .lref 1 0 4 1), (57, .lref 1 0 4 0), (56, I x4.now.lo), (55, .lref 1 0 4 0), (54, .lref 1 0 4 0), (53, B false), (52, B false), (51, I x4.now.lo), (50, .lref 1 0 4 0), (49, .lref 1 0 4 0), (4, .lref 1 0 4 0), (48, .agg [I x4.now.lo, I x4.now.hi, I x4.cost, I x4.error]), (47, .ptr (.agg [I x4.now.lo, I x4.now.hi, I x4.cost, I x4.error])), (46, I ((i4 : Nat) : Int)), (45, .sl e.items.nl (e.items.l.map S_Item.D) (zsl e.items.nl 4) none), (44, .lref 0 0 3 0), (41, B true), (40, I ((e.items.l.length : Nat) : Int)), (39, .sl e.items.nl (e.items.l.map S_Item.D) (zsl e.items.nl 4) none), (38, .lref 0 0 3 0), (37, I ((i4 : Nat) : Int)), (1, .lref 0 0 3 0), (3, I ((i4 : Nat) : Int))], [(0, ⟨[.agg [.sl e.items.nl (e.items.l.map S_Item.D) (zsl e.items.nl 4) none, I e.whole.lo, I e.whole.hi]], 3, false⟩), (1, ⟨[.agg [I x4.now.lo, I x4.now.hi, I x4.cost, I x4.error]], 4, false⟩)], 2, 0⟩

def sd13 (e : S_Estate) (i4 : Nat) (x4 : S_Item) : St := ⟨104, [(2, B false), (87, B true), (86, .tup []), (85, .tup []), (84, .tup []), (83, B true), (82, B true), (81, .tup []), (80, .tup []), (79, .tup []), (78, B true), (77, B true), (76, .tup []), (75, .tup []), (74, .tup []), (73, B true), (72, B true), (71, .tup []), (70, .tup []), (69, .tup []), (68, B true), (67, B true), (66, B true), (65, I x4.now.hi), (64, .lref 1 0 4 1), (63, .lref 1 0 4 0), (62, B false), (61, B false), (60, B false), (59, I x4.now.hi), (58, .lref 1 0 4 1), (57, .lref 1 0 4 0), (56, I x4.now.lo), (55, .lref 1 0 4 0), (54, .lref 1 0 4 0), (53, B false), (52, B false), (51, I x4.now.lo), (50, .lref 1 0 4 0), (49, .lref 1 0 4 0), (4, .lref 1 0 4 0), (48, .agg [I x4.now.lo, I x4.now.hi, I x4.cost, I x4.error]), (47, .ptr (.agg [I x4.now.lo, I x4.now.hi, I x4.cost, I x4.error])), (46, I ((i4 : Nat) : Int)), (45, .sl e.items.nl (e.items.l.map S_Item.D) (zsl e.items.nl 4) none), (44, .lref 0 0 3 0), (41, B true), (40, I ((e.items.l.length : Nat) : Int)), (39, .sl e.items.nl (e.items.l.map S_Item.D) (zsl e.items.nl 4) none), (38, .lref 0 0 3 0), (37, I ((i4 : Nat) : Int)), (1, .lref 0 0 3 0), (3, I ((i4 : Nat) : Int))], [(0, ⟨[.agg [.sl e.items.nl (e.items.l.map S_Item.D) (zsl e.items.nl 4) none, I e.whole.lo, I e.whole.hi]], 3, false⟩), (1, ⟨[.agg [I x4.now.lo, I x4.now.hi, I x4.cost, I x4.error]], 4, false⟩)], 2, 0⟩

def sd14 (e : S_Estate) (i4 : Nat) (x4 : S_Item) : St := ⟨104, [(2, B false), (87, B true), (86, .tup []), (85, .tup []), (84, .tup []), (83, B true), (82, B true), (81, .tup []), (80, .tup []), (79, .tup []), (78, B true), (77, B true), (76, .tup []), (75, .tup []), (74, .tup []), (73, B true), (72, B true), (71, B true), (70, I x4.cost), (69, .lref 1 0 4 2), (68, B false), (67, B false), (66, B false), (65, I x4.now.hi), (64, .lref 1 0 4 1), (63, .lref 1 0 4 0), (62, B false), (61, B false), (60, B false), (59, I x4.now.hi), (58, .lref 1 0 4 1), (57, .lref 1 0 4 0), (56, I x4.now.lo), (55, .lref 1 0 4 0), (54, .lref 1 0 4 0), (53, B false), (52, B false), (51, I x4.now.lo), (50, .lref 1 0 4 0), (49, .lref 1 0 4 0), (4, .lref 1 0 4 0), (48, .agg [I x4.now.lo, I x4.now.hi, I x4.cost, I x4.error]), (47, .ptr (.agg [I x4.now.lo, I x4.now.hi, I x4.cost, I x4.error])), (46, I ((i4 : Nat) : Int)), (45, .sl e.items.nl (e.items.l.map S_Item.D) (zsl e.items.nl 4) none), (44, .lref 0 0 3 0), (41, B true), (40, I ((e.items.l.length : Nat) : Int)), (39, .sl e.items.nl (e.items.l.map S_Item.D) (zsl e.items.nl 4) none), (38, .lref 0 0 3 0), (37, I ((i4 : Nat) : Int)), (1, .lref 0 0 3 0), (3, I ((i4 : Nat) : Int))], [(0, ⟨[.agg [.sl e.items.nl (e.items.l.map S_Item.D) (zsl e.items.nl 4) none, I e.whole.lo, I e.whole.hi]], 3, false⟩), (1, ⟨[.agg [I x4.now.lo, I x4.now.hi, I x4.cost, I x4.error]], 4, false⟩)], 2, 0⟩

def sd15 (e : S_Estate) (i4 : Nat) (x4 : S_Item) : St := ⟨104, [(2, B false), (87, B true), (86, .tup []), (85, .tup []), (84, .tup []), (83, B true), (82, B true), (81, .tup []), (80, .tup []), (79, .tup []), (78, B true), (77, B true), (76, B true), (75, I x4.cost), (74, .lref 1 0 4 2), (73, B false), (72, B false), (71, B false), (70, I x4.cost), (69, .lref 1 0 4 2), (68, B false), (67, B false), (66, B false), (65, I x4.now.hi), (64, .lref 1 0 4 1), (63, .lref 1 0 4 0), (62, B false), (61, B false), (60, B false), (59, I x4.now.hi), (58, .lref 1 0 4 1), (57, .lref 1 0 4 0), (56, I x4.now.lo), (55, .lref 1 0 4 0), (54, .lref 1 0 4 0), (53, B false), (52, B false), (51, I x4.now.lo), (50, .lref 1 0 4 0), (49, .lref 1 0 4 0), (4, .lref 1 0 4 0), (48, .agg [I x4.now.lo, I x4.now.hi, I x4.cost, I x4.error]), (47, .ptr (.agg [I x4.now.lo, I x4.now.hi, I x4.cost, I x4.error])), (46, I ((i4 : Nat) : Int)), (45, .sl e.items.nl (e.items.l.map S_Item.D) (zsl e.items.nl 4) none), (44, .lref 0 0 3 0), (41, B true), (40, I ((e.items.l.length : Nat) : Int)), (39, .sl e.items.nl (e.items.l.map S_Item.D) (zsl e.items.nl 4) none), (38, .lref 0 0 3 0), (37, I ((i4 : Nat) : Int)), (1, .lref 0 0 3 0), (3, I ((i4 : Nat) : Int))], [(0, ⟨[.agg [.sl e.items.nl (e.items.l.map S_Item.D) (zsl e.items.nl 4) none, I e.whole.lo, I e.whole.hi]], 3, false⟩), (1, ⟨[.agg [I x4.now.lo, I x4.now.hi, I x4.cost, I x4.error]], 4, false⟩)], 2, 0⟩

def sd16 (e : S_Estate) (i4 : Nat) (x4 : S_Item) : St := ⟨104, [(2, B false), (87, B true), (86, .tup []), (85, .tup []), (84, .tup []), (83, B true), (82, B true), (81, B true), (80, I x4.error), (79, .lref 1 0 4 3), (78, B false), (77, B false), (76, B false), (75, I x4.cost), (74, .lref 1 0 4 2), (73, B false), (72, B false), (71, B false), (70, I x4.cost), (69, .lref 1 0 4 2), (68, B false), (67, B false), (66, B false), (65, I x4.now.hi), (64, .lref 1 0 4 1), (63, .lref 1 0 4 0), (62, B false), (61, B false), (60, B false), (59, I x4.now.hi), (58, .lref 1 0 4 1), (57, .lref 1 0 4 0), (56, I x4.now.lo), (55, .lref 1 0 4 0), (54, .lref 1 0 4 0), (53, B false), (52, B false), (51, I x4.now.lo), (50, .lref 1 0 4 0), (49, .lref 1 0 4 0), (4, .lref 1 0 4 0), (48, .agg [I x4.now.lo, I x4.now.hi, I x4.cost, I x4.error]), (47, .ptr (.agg [I x4.now.lo, I x4.now.hi, I x4.cost, I x4.error])), (46, I ((i4 : Nat) : Int)), (45, .sl e.items.nl (e.items.l.map S_Item.D) (zsl e.items.nl 4) none), (44, .lref 0 0 3 0), (41, B true), (40, I ((e.items.l.length : Nat) : Int)), (39, .sl e.items.nl (e.items.l.map S_Item.D) (zsl e.items.nl 4) none), (38, .lref 0 0 3 0), (37, I ((i4 : Nat) : Int)), (1, .lref 0 0 3 0), (3, I ((i4 : Nat) : Int))], [(0, ⟨[.agg [.sl e.items.nl (e.items.l.map S_Item.D) (zsl e.items.nl 4) none, I e.whole.lo, I e.whole.hi]], 3, false⟩), (1, ⟨[.agg [I x4.now.lo, I x4.now.hi, I x4.cost, I x4.error]], 4, false⟩)], 2, 0⟩

def sd17 (e : S_Estate) (i4 : Nat) (x4 : S_Item) : St := ⟨104, [(2, B false), (87, B true), (86, B true), (85, I x4.error), (84, .lref 1 0 4 3), (83, B false), (82, B false), (81, B false), (80, I x4.error), (79, .lref 1 0 4 3), (78, B false), (77, B false), (76, B false), (75, I x4.cost), (74, .lref 1 0 4 2), (73, B false), (72, B false), (71, B false), (70, I x4.cost), (69, .lref 1 0 4 2), (68, B false), (67, B false), (66, B false), (65, I x4.now.hi), (64, .lref 1 0 4 1), (63, .lref 1 0 4 0), (62, B false), (61, B false), (60, B false), (59, I x4.now.hi), (58, .lref 1 0 4 1), (57, .lref 1 0 4 0), (56, I x4.now.lo), (55, .lref 1 0 4 0), (54, .lref 1 0 4 0), (53, B false), (52, B false), (51, I x4.now.lo), (50, .lref 1 0 4 0), (49, .lref 1 0 4 0), (4, .lref 1 0 4 0), (48, .agg [I x4.now.lo, I x4.now.hi, I x4.cost, I x4.error]), (47, .ptr (.agg [I x4.now.lo, I x4.now.hi, I x4.cost, I x4.error])), (46, I ((i4 : Nat) : Int)), (45, .sl e.items.nl (e.items.l.map S_Item.D) (zsl e.items.nl 4) none), (44, .lref 0 0 3 0), (41, B true), (40, I ((e.items.l.length : Nat) : Int)), (39, .sl e.items.nl (e.items.l.map S_Item.D) (zsl e.items.nl 4) none), (38, .lref 0 0 3 0), (37, I ((i4 : Nat) : Int)), (1, .lref 0 0 3 0), (3, I ((i4 : Nat) : Int))], [(0, ⟨[.agg [.sl e.items.nl (e.items.l.map S_Item.D) (zsl e.items.nl 4) none, I e.whole.lo, I e.whole.hi]], 3, false⟩), (1, ⟨[.agg [I x4.now.lo, I x4.now.hi, I x4.cost, I x4.error]], 4, false⟩)], 2, 0⟩

theorem T_r_Valid (e : S_Estate) : (lim cfg).pure 54 [S_Estate.D e] = some (B (zR e)) := by
  unfold zR
  cases h1 : decide (((e.items.l.length : Nat) : Int) < 1) with
  | true =>
    have g1 := of_decide_eq_true h1
    exact zh [.rw 8 (I ((e.items.l.length : Nat) : Int)), .dec true] (And.intro h1 (And.intro (zn S_Item.D e.items) trivial)) (by kernel_rfl)
  | false =>
    have g1 := of_decide_eq_false h1
    cases h2 : decide (((e.items.l.length : Nat) : Int) > 12) with
    | true =>
      have g2 := of_decide_eq_true h2
      exact zh [.rw 8 (I ((e.items.l.length : Nat) : Int)), .dec false, .rw 13 (I ((e.items.l.length : Nat) : Int)), .dec true] (And.intro h2 (And.intro (zn S_Item.D e.items) (And.intro h1 (And.intro (zn S_Item.D e.items) trivial)))) (by kernel_rfl)
    | false =>
      have g2 := of_decide_eq_false h2
      cases h3 : decide (e.whole.lo < 0) with
      | true =>
        have g3 := of_decide_eq_true h3
        exact zh [.rw 8 (I ((e.items.l.length : Nat) : Int)), .dec false, .rw 13 (I ((e.items.l.length : Nat) : Int)), .dec false, .dec true] (And.intro h3 (And.intro h2 (And.intro (zn S_Item.D e.items) (And.intro h1 (And.intro (zn S_Item.D e.items) trivial))))) (by kernel_rfl)
      | false =>
        have g3 := of_decide_eq_false h3
        cases h4 : decide (e.whole.lo > e.whole.hi) with
        | true =>
          have g4 := of_decide_eq_true h4
          exact zh ((r_Valid_o1 e) ++ [.dec true]) (And.intro h4 (And.intro h3 (And.intro h2 (And.intro (zn S_Item.D e.items) (And.intro h1 (And.intro (zn S_Item.D e.items) trivial)))))) (by kernel_rfl)
        | false =>
          have g4 := of_decide_eq_false h4
          cases h5 : decide (e.whole.hi > 17179869184) with
          | true =>
            have g5 := of_decide_eq_true h5
            exact zh ((r_Valid_o1 e) ++ [.dec false, .dec true]) (And.intro h5 (And.intro h4 (And.intro h3 (And.intro h2 (And.intro (zn S_Item.D e.items) (And.intro h1 (And.intro (zn S_Item.D e.items) trivial))))))) (by kernel_rfl)
          | false =>
            have g5 := of_decide_eq_false h5
            cases h20 : r_Valid_4 e.items.l 0 with
            | x0 =>
              try dsimp only
              have p1 := (po_lr (q := lr_r_Valid_4 e) (lp_r_Valid_4 e e.items.l 0 (List.drop_zero) (Nat.zero_le _) (by first | assumption | omega | (simp only [z8] at * <;> omega) | (simp only [GS.some_l, List.length_set, List.length_append, List.length_cons, List.length_nil] at * <;> first | with_reducible assumption | omega) | (simp only [GS.some_l, List.length_set, List.length_append, List.length_cons, List.length_nil, z8] at * <;> first | with_reducible assumption | omega) | (simp at * <;> omega))) h20)
              cases h21 : decide (((r_All e).lo) ≤ e.whole.hi) with
              | true =>
                have g21 := of_decide_eq_true h21
                cases h22 : decide (((r_All e).hi) ≥ e.whole.lo) with
                | true =>
                  have g22 := of_decide_eq_true h22
                  exact zh ((r_Valid_o1 e) ++ [.dec false, .dec false, .loop (.exit 0) (sd10 e), .pure (.agg [I ((r_All e).lo), I ((r_All e).hi)]), .dec true, .dec true]) (And.intro h22 (And.intro h21 (And.intro (T_r_All e (by first | assumption | omega | (simp only [z8] at * <;> omega) | (simp only [GS.some_l, List.length_set, List.length_append, List.length_cons, List.length_nil] at * <;> first | with_reducible assumption | omega) | (simp only [GS.some_l, List.length_set, List.length_append, List.length_cons, List.length_nil, z8] at * <;> first | with_reducible assumption | omega) | (simp at * <;> omega))) (And.intro p1 (And.intro h5 (And.intro h4 (And.intro h3 (And.intro h2 (And.intro (zn S_Item.D e.items) (And.intro h1 (And.intro (zn S_Item.D e.items) trivial))))))))))) (by kernel_rfl)
                | false =>
                  have g22 := of_decide_eq_false h22
                  exact zh ((r_Valid_o1 e) ++ [.dec false, .dec false, .loop (.exit 0) (sd10 e), .pure (.agg [I ((r_All e).lo), I ((r_All e).hi)]), .dec true, .dec false]) (And.intro h22 (And.intro h21 (And.intro (T_r_All e (by first | assumption | omega | (simp only [z8] at * <;> omega) | (simp only [GS.some_l, List.length_set, List.length_append, List.length_cons, List.length_nil] at * <;> first | with_reducible assumption | omega) | (simp only [GS.some_l, List.length_set, List.length_append, List.length_cons, List.length_nil, z8] at * <;> first | with_reducible assumption | omega) | (simp at * <;> omega))) (And.intro p1 (And.intro h5 (And.intro h4 (And.intro h3 (And.intro h2 (And.intro (zn S_Item.D e.items) (And.intro h1 (And.intro (zn S_Item.D e.items) trivial))))))))))) (by kernel_rfl)
              | false =>
                have g21 := of_decide_eq_false h21
                exact zh ((r_Valid_o1 e) ++ [.dec false, .dec false, .loop (.exit 0) (sd10 e), .pure (.agg [I ((r_All e).lo), I ((r_All e).hi)]), .dec false]) (And.intro h21 (And.intro (T_r_All e (by first | assumption | omega | (simp only [z8] at * <;> omega) | (simp only [GS.some_l, List.length_set, List.length_append, List.length_cons, List.length_nil] at * <;> first | with_reducible assumption | omega) | (simp only [GS.some_l, List.length_set, List.length_append, List.length_cons, List.length_nil, z8] at * <;> first | with_reducible assumption | omega) | (simp at * <;> omega))) (And.intro p1 (And.intro h5 (And.intro h4 (And.intro h3 (And.intro h2 (And.intro (zn S_Item.D e.items) (And.intro h1 (And.intro (zn S_Item.D e.items) trivial)))))))))) (by kernel_rfl)
            | x1 i4 x4 =>
              try dsimp only
              exact zh ((r_Valid_o1 e) ++ [.dec false, .dec false, .loop .ret (sd11 e i4 x4)]) (And.intro (po_lr (q := lr_r_Valid_4 e) (lp_r_Valid_4 e e.items.l 0 (List.drop_zero) (Nat.zero_le _) (by first | assumption | omega | (simp only [z8] at * <;> omega) | (simp only [GS.some_l, List.length_set, List.length_append, List.length_cons, List.length_nil] at * <;> first | with_reducible assumption | omega) | (simp only [GS.some_l, List.length_set, List.length_append, List.length_cons, List.length_nil, z8] at * <;> first | with_reducible assumption | omega) | (simp at * <;> omega))) h20) (And.intro h5 (And.intro h4 (And.intro h3 (And.intro h2 (And.intro (zn S_Item.D e.items) (And.intro h1 (And.intro (zn S_Item.D e.items) trivial)))))))) (by kernel_rfl)
            | x2 i4 x4 =>
              try dsimp only
              exact zh ((r_Valid_o1 e) ++ [.dec false, .dec false, .loop .ret (sd12 e i4 x4)]) (And.intro (po_lr (q := lr_r_Valid_4 e) (lp_r_Valid_4 e e.items.l 0 (List.drop_zero) (Nat.zero_le _) (by first | assumption | omega | (simp only [z8] at * <;> omega) | (simp only [GS.some_l, List.length_set, List.length_append, List.length_cons, List.length_nil] at * <;> first | with_reducible assumption | omega) | (simp only [GS.some_l, List.length_set, List.length_append, List.length_cons, List.length_nil, z8] at * <;> first | with_reducible assumption | omega) | (simp at * <;> omega))) h20) (And.intro h5 (And.intro h4 (And.intro h3 (And.intro h2 (And.intro (zn S_Item.D e.items) (And.intro h1 (And.intro (zn S_Item.D e.items) trivial)))))))) (by kernel_rfl)
            | x3 i4 x4 =>
              try dsimp only
              exact zh ((r_Valid_o1 e) ++ [.dec false, .dec false, .loop .ret (sd13 e i4 x4)]) (And.intro (po_lr (q := lr_r_Valid_4 e) (lp_r_Valid_4 e e.items.l 0 (List.drop_zero) (Nat.zero_le _) (by first | assumption | omega | (simp only [z8] at * <;> omega) | (simp only [GS.some_l, List.length_set, List.length_append, List.length_cons, List.length_nil] at * <;> first | with_reducible assumption | omega) | (simp only [GS.some_l, List.length_set, List.length_append, List.length_cons, List.length_nil, z8] at * <;> first | with_reducible assumption | omega) | (simp at * <;> omega))) h20) (And.intro h5 (And.intro h4 (And.intro h3 (And.intro h2 (And.intro (zn S_Item.D e.items) (And.intro h1 (And.intro (zn S_Item.D e.items) trivial)))))))) (by kernel_rfl)
            | x4 i4 x4 =>
              try dsimp only
              exact zh ((r_Valid_o1 e) ++ [.dec false, .dec false, .loop .ret (sd14 e i4 x4)]) (And.intro (po_lr (q := lr_r_Valid_4 e) (lp_r_Valid_4 e e.items.l 0 (List.drop_zero) (Nat.zero_le _) (by first | assumption | omega | (simp only [z8] at * <;> omega) | (simp only [GS.some_l, List.length_set, List.length_append, List.length_cons, List.length_nil] at * <;> first | with_reducible assumption | omega) | (simp only [GS.some_l, List.length_set, List.length_append, List.length_cons, List.length_nil, z8] at * <;> first | with_reducible assumption | omega) | (simp at * <;> omega))) h20) (And.intro h5 (And.intro h4 (And.intro h3 (And.intro h2 (And.intro (zn S_Item.D e.items) (And.intro h1 (And.intro (zn S_Item.D e.items) trivial)))))))) (by kernel_rfl)
            | x5 i4 x4 =>
              try dsimp only
              exact zh ((r_Valid_o1 e) ++ [.dec false, .dec false, .loop .ret (sd15 e i4 x4)]) (And.intro (po_lr (q := lr_r_Valid_4 e) (lp_r_Valid_4 e e.items.l 0 (List.drop_zero) (Nat.zero_le _) (by first | assumption | omega | (simp only [z8] at * <;> omega) | (simp only [GS.some_l, List.length_set, List.length_append, List.length_cons, List.length_nil] at * <;> first | with_reducible assumption | omega) | (simp only [GS.some_l, List.length_set, List.length_append, List.length_cons, List.length_nil, z8] at * <;> first | with_reducible assumption | omega) | (simp at * <;> omega))) h20) (And.intro h5 (And.intro h4 (And.intro h3 (And.intro h2 (And.intro (zn S_Item.D e.items) (And.intro h1 (And.intro (zn S_Item.D e.items) trivial)))))))) (by kernel_rfl)
            | x6 i4 x4 =>
              try dsimp only
              exact zh ((r_Valid_o1 e) ++ [.dec false, .dec false, .loop .ret (sd16 e i4 x4)]) (And.intro (po_lr (q := lr_r_Valid_4 e) (lp_r_Valid_4 e e.items.l 0 (List.drop_zero) (Nat.zero_le _) (by first | assumption | omega | (simp only [z8] at * <;> omega) | (simp only [GS.some_l, List.length_set, List.length_append, List.length_cons, List.length_nil] at * <;> first | with_reducible assumption | omega) | (simp only [GS.some_l, List.length_set, List.length_append, List.length_cons, List.length_nil, z8] at * <;> first | with_reducible assumption | omega) | (simp at * <;> omega))) h20) (And.intro h5 (And.intro h4 (And.intro h3 (And.intro h2 (And.intro (zn S_Item.D e.items) (And.intro h1 (And.intro (zn S_Item.D e.items) trivial)))))))) (by kernel_rfl)
            | x7 i4 x4 =>
              try dsimp only
              exact zh ((r_Valid_o1 e) ++ [.dec false, .dec false, .loop .ret (sd17 e i4 x4)]) (And.intro (po_lr (q := lr_r_Valid_4 e) (lp_r_Valid_4 e e.items.l 0 (List.drop_zero) (Nat.zero_le _) (by first | assumption | omega | (simp only [z8] at * <;> omega) | (simp only [GS.some_l, List.length_set, List.length_append, List.length_cons, List.length_nil] at * <;> first | with_reducible assumption | omega) | (simp only [GS.some_l, List.length_set, List.length_append, List.length_cons, List.length_nil, z8] at * <;> first | with_reducible assumption | omega) | (simp at * <;> omega))) h20) (And.intro h5 (And.intro h4 (And.intro h3 (And.intro h2 (And.intro (zn S_Item.D e.items) (And.intro h1 (And.intro (zn S_Item.D e.items) trivial)))))))) (by kernel_rfl)

theorem valid_len {e : S_Estate} (h : zR e = true) : 1 ≤ e.items.l.length ∧ e.items.l.length ≤ 12 := by
  unfold zR at h
  simp only [Bool.cond_decide] at h
  split at h
  · cases h
  split at h
  · cases h
  omega

noncomputable def lp43_4 : Code := subC [1, 1, 0, 1, 0, 0] (bodyC Tryz.f43)

inductive LR_r_Same_4 where
  | x0
  | x1 (i4 : Nat) (x4 : S_Item)
instance : Inhabited LR_r_Same_4 := ⟨.x0⟩
def r_Same_4 (b : S_Estate) : List S_Item → Nat → LR_r_Same_4
  | [], i4 => .x0
  | x4 :: rest4, i4 =>
    bif (!(((x4.now.lo == ((GS.at b.items ((i4 : Nat) : Int)).now.lo)) && ((x4.now.hi == ((GS.at b.items ((i4 : Nat) : Int)).now.hi)) && true)) && ((x4.cost == ((GS.at b.items ((i4 : Nat) : Int)).cost)) && ((x4.error == ((GS.at b.items ((i4 : Nat) : Int)).error)) && true)))) then
      .x1 i4 x4
    else
      r_Same_4 b rest4 (i4 + 1)
def lr_r_Same_4 (a : S_Estate) (b : S_Estate) : LR_r_Same_4 → Exit × St
  | .x0 => ((.exit 0), ⟨38, [(24, B false), (23, I ((a.items.l.length : Nat) : Int)), (22, .sl a.items.nl (a.items.l.map S_Item.D) (zsl a.items.nl 4) none), (21, .lref 0 0 3 0), (20, I ((a.items.l.length : Nat) : Int)), (2, .lref 0 0 3 0), (3, .lref 1 0 3 0), (5, I ((a.items.l.length : Nat) : Int))], [(0, ⟨[.agg [.sl a.items.nl (a.items.l.map S_Item.D) (zsl a.items.nl 4) none, I a.whole.lo, I a.whole.hi]], 3, false⟩), (1, ⟨[.agg [.sl b.items.nl (b.items.l.map S_Item.D) (zsl b.items.nl 4) none, I b.whole.lo, I b.whole.hi]], 3, false⟩)], 2, 0⟩)
  | .x1 i4 x4 => (.ret, ⟨38, [(4, B false), (37, B true), (36, .agg [I ((GS.at b.items ((i4 : Nat) : Int)).now.lo), I ((GS.at b.items ((i4 : Nat) : Int)).now.hi), I ((GS.at b.items ((i4 : Nat) : Int)).cost), I ((GS.at b.items ((i4 : Nat) : Int)).error)]), (35, .ptr (.agg [I ((GS.at b.items ((i4 : Nat) : Int)).now.lo), I ((GS.at b.items ((i4 : Nat) : Int)).now.hi), I ((GS.at b.items ((i4 : Nat) : Int)).cost), I ((GS.at b.items ((i4 : Nat) : Int)).error)])), (34, I ((i4 : Nat) : Int)), (33, .sl b.items.nl (b.items.l.map S_Item.D) (zsl b.items.nl 4) none), (32, .lref 1 0 3 0), (31, .agg [I x4.now.lo, I x4.now.hi, I x4.cost, I x4.error]), (30, .ptr (.agg [I x4.now.lo, I x4.now.hi, I x4.cost, I x4.error])), (29, I ((i4 : Nat) : Int)), (28, .sl a.items.nl (a.items.l.map S_Item.D) (zsl a.items.nl 4) none), (27, .lref 0 0 3 0), (24, B true), (23, I ((a.items.l.length : Nat) : Int)), (22, .sl a.items.nl (a.items.l.map S_Item.D) (zsl a.items.nl 4) none), (21, .lref 0 0 3 0), (20, I ((i4 : Nat) : Int)), (2, .lref 0 0 3 0), (3, .lref 1 0 3 0), (5, I ((i4 : Nat) : Int))], [(0, ⟨[.agg [.sl a.items.nl (a.items.l.map S_Item.D) (zsl a.items.nl 4) none, I a.whole.lo, I a.whole.hi]], 3, false⟩), (1, ⟨[.agg [.sl b.items.nl (b.items.l.map S_Item.D) (zsl b.items.nl 4) none, I b.whole.lo, I b.whole.hi]], 3, false⟩)], 2, 0⟩)
theorem lp_r_Same_4 (a : S_Estate) (b : S_Estate) : ∀ (rest4 : List S_Item) (i4 : Nat) (hd4 : a.items.l.drop i4 = rest4) (hi4 : i4 ≤ a.items.l.length) (hS : a.items.l.length = b.items.l.length) (hL4 : a.items.l.length ≤ 9223372036854775807), (lim cfg).loop 43 lp43_4 ⟨38, [(2, .lref 0 0 3 0), (3, .lref 1 0 3 0), (5, I ((i4 : Nat) : Int))], [(0, ⟨[.agg [.sl a.items.nl (a.items.l.map S_Item.D) (zsl a.items.nl 4) none, I a.whole.lo, I a.whole.hi]], 3, false⟩), (1, ⟨[.agg [.sl b.items.nl (b.items.l.map S_Item.D) (zsl b.items.nl 4) none, I b.whole.lo, I b.whole.hi]], 3, false⟩)], 2, 0⟩ = some (lr_r_Same_4 a b (r_Same_4 b rest4 i4)) := by
  intro rest4
  induction rest4 with
  | nil =>
    intro i4 hd4 hi4 hS hL4
    unfold r_Same_4
    obtain rfl : i4 = a.items.l.length := nil_eq hd4 hi4
    exact zH [.rw 23 (I ((a.items.l.length : Nat) : Int)), .dec false] (And.intro (lt_no hd4) (And.intro (zn S_Item.D a.items) trivial)) (by kernel_rfl)
  | cons x4 rest4 ih =>
    intro i4 hd4 hi4 hS hL4
    have hlt4 := zv hd4
    unfold r_Same_4
    cases h4 : (!(((x4.now.lo == ((GS.at b.items ((i4 : Nat) : Int)).now.lo)) && ((x4.now.hi == ((GS.at b.items ((i4 : Nat) : Int)).now.hi)) && true)) && ((x4.cost == ((GS.at b.items ((i4 : Nat) : Int)).cost)) && ((x4.error == ((GS.at b.items ((i4 : Nat) : Int)).error)) && true)))) with
    | true =>
      exact zH [.rw 23 (I ((a.items.l.length : Nat) : Int)), .dec true, .el (.agg [I x4.now.lo, I x4.now.hi, I x4.cost, I x4.error]), .el (.agg [I ((GS.at b.items ((i4 : Nat) : Int)).now.lo), I ((GS.at b.items ((i4 : Nat) : Int)).now.hi), I ((GS.at b.items ((i4 : Nat) : Int)).cost), I ((GS.at b.items ((i4 : Nat) : Int)).error)]), .dec true] (And.intro h4 (And.intro (el_in (s := b.items) (f := S_Item.D) (k := 4) (i := ((i4 : Nat) : Int)) (by first | assumption | omega | (simp only [z8] at * <;> omega) | (simp only [GS.some_l, List.length_set, List.length_append, List.length_cons, List.length_nil] at * <;> first | with_reducible assumption | omega) | (simp only [GS.some_l, List.length_set, List.length_append, List.length_cons, List.length_nil, z8] at * <;> first | with_reducible assumption | omega) | (simp at * <;> omega)) (by first | assumption | omega | (simp only [z8] at * <;> omega) | (simp only [GS.some_l, List.length_set, List.length_append, List.length_cons, List.length_nil] at * <;> first | with_reducible assumption | omega) | (simp only [GS.some_l, List.length_set, List.length_append, List.length_cons, List.length_nil, z8] at * <;> first | with_reducible assumption | omega) | (simp at * <;> omega))) (And.intro (el_at (s := a.items) (f := S_Item.D) (k := 4) hd4) (And.intro (lt_at hd4) (And.intro (zn S_Item.D a.items) trivial))))) (by kernel_rfl)
    | false =>
      exact po_turn [.rw 23 (I ((a.items.l.length : Nat) : Int)), .dec true, .el (.agg [I x4.now.lo, I x4.now.hi, I x4.cost, I x4.error]), .el (.agg [I ((GS.at b.items ((i4 : Nat) : Int)).now.lo), I ((GS.at b.items ((i4 : Nat) : Int)).now.hi), I ((GS.at b.items ((i4 : Nat) : Int)).cost), I ((GS.at b.items ((i4 : Nat) : Int)).error)]), .dec false, .rw 26 (I ((i4 + 1 : Nat) : Int))] (And.intro (inc_rw (i := i4) (by have := zv hd4; omega)) (And.intro h4 (And.intro (el_in (s := b.items) (f := S_Item.D) (k := 4) (i := ((i4 : Nat) : Int)) (by first | assumption | omega | (simp only [z8] at * <;> omega) | (simp only [GS.some_l, List.length_set, List.length_append, List.length_cons, List.length_nil] at * <;> first | with_reducible assumption | omega) | (simp only [GS.some_l, List.length_set, List.length_append, List.length_cons, List.length_nil, z8] at * <;> first | with_reducible assumption | omega) | (simp at * <;> omega)) (by first | assumption | omega | (simp only [z8] at * <;> omega) | (simp only [GS.some_l, List.length_set, List.length_append, List.length_cons, List.length_nil] at * <;> first | with_reducible assumption | omega) | (simp only [GS.some_l, List.length_set, List.length_append, List.length_cons, List.length_nil, z8] at * <;> first | with_reducible assumption | omega) | (simp at * <;> omega))) (And.intro (el_at (s := a.items) (f := S_Item.D) (k := 4) hd4) (And.intro (lt_at hd4) (And.intro (zn S_Item.D a.items) trivial)))))) (ih (i4 + 1) (zA hd4) (zv hd4) (by first | assumption | omega | (simp only [z8] at * <;> omega) | (simp only [GS.some_l, List.length_set, List.length_append, List.length_cons, List.length_nil] at * <;> first | with_reducible assumption | omega) | (simp only [GS.some_l, List.length_set, List.length_append, List.length_cons, List.length_nil, z8] at * <;> first | with_reducible assumption | omega) | (simp at * <;> omega)) (by first | assumption | omega | (simp only [z8] at * <;> omega) | (simp only [GS.some_l, List.length_set, List.length_append, List.length_cons, List.length_nil] at * <;> first | with_reducible assumption | omega) | (simp only [GS.some_l, List.length_set, List.length_append, List.length_cons, List.length_nil, z8] at * <;> first | with_reducible assumption | omega) | (simp at * <;> omega))) (by kernel_rfl)

def r_Same (a : S_Estate) (b : S_Estate) : Bool :=
  bif (((a.items.l.length : Nat) : Int) != ((b.items.l.length : Nat) : Int)) then
    false
  else
    bif (!((a.whole.lo == b.whole.lo) && ((a.whole.hi == b.whole.hi) && true))) then
      false
    else
      match r_Same_4 b a.items.l 0 with
      | .x0 =>
        true
      | .x1 i4 x4 =>
        false

def sd18 (a : S_Estate) (b : S_Estate) : St := ⟨38, [(24, B false), (23, I ((a.items.l.length : Nat) : Int)), (22, .sl a.items.nl (a.items.l.map S_Item.D) (zsl a.items.nl 4) none), (21, .lref 0 0 3 0), (20, I ((a.items.l.length : Nat) : Int)), (2, .lref 0 0 3 0), (3, .lref 1 0 3 0), (5, I ((a.items.l.length : Nat) : Int))], [(0, ⟨[.agg [.sl a.items.nl (a.items.l.map S_Item.D) (zsl a.items.nl 4) none, I a.whole.lo, I a.whole.hi]], 3, false⟩), (1, ⟨[.agg [.sl b.items.nl (b.items.l.map S_Item.D) (zsl b.items.nl 4) none, I b.whole.lo, I b.whole.hi]], 3, false⟩)], 2, 0⟩

def sd19 (a : S_Estate) (b : S_Estate) (i4 : Nat) (x4 : S_Item) : St := ⟨38, [(4, B false), (37, B true), (36, .agg [I ((GS.at b.items ((i4 : Nat) : Int)).now.lo), I ((GS.at b.items ((i4 : Nat) : Int)).now.hi), I ((GS.at b.items ((i4 : Nat) : Int)).cost), I ((GS.at b.items ((i4 : Nat) : Int)).error)]), (35, .ptr (.agg [I ((GS.at b.items ((i4 : Nat) : Int)).now.lo), I ((GS.at b.items ((i4 : Nat) : Int)).now.hi), I ((GS.at b.items ((i4 : Nat) : Int)).cost), I ((GS.at b.items ((i4 : Nat) : Int)).error)])), (34, I ((i4 : Nat) : Int)), (33, .sl b.items.nl (b.items.l.map S_Item.D) (zsl b.items.nl 4) none), (32, .lref 1 0 3 0), (31, .agg [I x4.now.lo, I x4.now.hi, I x4.cost, I x4.error]), (30, .ptr (.agg [I x4.now.lo, I x4.now.hi, I x4.cost, I x4.error])), (29, I ((i4 : Nat) : Int)), (28, .sl a.items.nl (a.items.l.map S_Item.D) (zsl a.items.nl 4) none), (27, .lref 0 0 3 0), (24, B true), (23, I ((a.items.l.length : Nat) : Int)), (22, .sl a.items.nl (a.items.l.map S_Item.D) (zsl a.items.nl 4) none), (21, .lref 0 0 3 0), (20, I ((i4 : Nat) : Int)), (2, .lref 0 0 3 0), (3, .lref 1 0 3 0), (5, I ((i4 : Nat) : Int))], [(0, ⟨[.agg [.sl a.items.nl (a.items.l.map S_Item.D) (zsl a.items.nl 4) none, I a.whole.lo, I a.whole.hi]], 3, false⟩), (1, ⟨[.agg [.sl b.items.nl (b.items.l.map S_Item.D) (zsl b.items.nl 4) none, I b.whole.lo, I b.whole.hi]], 3, false⟩)], 2, 0⟩

theorem T_r_Same (a : S_Estate) (b : S_Estate) (hL_a_items : a.items.l.length ≤ 9223372036854775807) : (lim cfg).pure 43 [S_Estate.D a, S_Estate.D b] = some (B (r_Same a b)) := by
  unfold r_Same
  cases h1 : (((a.items.l.length : Nat) : Int) != ((b.items.l.length : Nat) : Int)) with
  | true =>
    have g1 := y0 h1
    exact zh [.rw 8 (I ((a.items.l.length : Nat) : Int)), .rw 11 (I ((b.items.l.length : Nat) : Int)), .dec true] (And.intro h1 (And.intro (zn S_Item.D b.items) (And.intro (zn S_Item.D a.items) trivial))) (by kernel_rfl)
  | false =>
    have g1 := zF h1
    cases h2 : (!((a.whole.lo == b.whole.lo) && ((a.whole.hi == b.whole.hi) && true))) with
    | true =>
      exact zh [.rw 8 (I ((a.items.l.length : Nat) : Int)), .rw 11 (I ((b.items.l.length : Nat) : Int)), .dec false, .dec true] (And.intro h2 (And.intro h1 (And.intro (zn S_Item.D b.items) (And.intro (zn S_Item.D a.items) trivial)))) (by kernel_rfl)
    | false =>
      cases h5 : r_Same_4 b a.items.l 0 with
      | x0 =>
        try dsimp only
        exact zh [.rw 8 (I ((a.items.l.length : Nat) : Int)), .rw 11 (I ((b.items.l.length : Nat) : Int)), .dec false, .dec false, .loop (.exit 0) (sd18 a b)] (And.intro (po_lr (q := lr_r_Same_4 a b) (lp_r_Same_4 a b a.items.l 0 (List.drop_zero) (Nat.zero_le _) (by first | assumption | omega | (simp only [z8] at * <;> omega) | (simp only [GS.some_l, List.length_set, List.length_append, List.length_cons, List.length_nil] at * <;> first | with_reducible assumption | omega) | (simp only [GS.some_l, List.length_set, List.length_append, List.length_cons, List.length_nil, z8] at * <;> first | with_reducible assumption | omega) | (simp at * <;> omega)) (by first | assumption | omega | (simp only [z8] at * <;> omega) | (simp only [GS.some_l, List.length_set, List.length_append, List.length_cons, List.length_nil] at * <;> first | with_reducible assumption | omega) | (simp only [GS.some_l, List.length_set, List.length_append, List.length_cons, List.length_nil, z8] at * <;> first | with_reducible assumption | omega) | (simp at * <;> omega))) h5) (And.intro h2 (And.intro h1 (And.intro (zn S_Item.D b.items) (And.intro (zn S_Item.D a.items) trivial))))) (by kernel_rfl)
      | x1 i4 x4 =>
        try dsimp only
        exact zh [.rw 8 (I ((a.items.l.length : Nat) : Int)), .rw 11 (I ((b.items.l.length : Nat) : Int)), .dec false, .dec false, .loop .ret (sd19 a b i4 x4)] (And.intro (po_lr (q := lr_r_Same_4 a b) (lp_r_Same_4 a b a.items.l 0 (List.drop_zero) (Nat.zero_le _) (by first | assumption | omega | (simp only [z8] at * <;> omega) | (simp only [GS.some_l, List.length_set, List.length_append, List.length_cons, List.length_nil] at * <;> first | with_reducible assumption | omega) | (simp only [GS.some_l, List.length_set, List.length_append, List.length_cons, List.length_nil, z8] at * <;> first | with_reducible assumption | omega) | (simp at * <;> omega)) (by first | assumption | omega | (simp only [z8] at * <;> omega) | (simp only [GS.some_l, List.length_set, List.length_append, List.length_cons, List.length_nil] at * <;> first | with_reducible assumption | omega) | (simp only [GS.some_l, List.length_set, List.length_append, List.length_cons, List.length_nil, z8] at * <;> first | with_reducible assumption | omega) | (simp at * <;> omega))) h5) (And.intro h2 (And.intro h1 (And.intro (zn S_Item.D b.items) (And.intro (zn S_Item.D a.items) trivial))))) (by kernel_rfl)

noncomputable def lp33_8 : Code := subC [1, 1, 1, 1, 0, 1, 0, 0] (bodyC Tryz.f33)

inductive LR_orders_CheckAreas_8 where
  | x0 (v8_0 : Int)
  | x1 (i8 : Nat) (x8 : Int) (v8_0 : Int)
instance : Inhabited LR_orders_CheckAreas_8 := ⟨.x0 default⟩
def orders_CheckAreas_8 (e : S_Estate) : List Int → Nat → Int → LR_orders_CheckAreas_8
  | [], i8, v8_0 => .x0 v8_0
  | x8 :: rest8, i8, v8_0 =>
    bif (zt x8 ((GS.at e.items ((i8 : Nat) : Int)).now.lo) ((GS.at e.items ((i8 : Nat) : Int)).now.hi)) then
      orders_CheckAreas_8 e rest8 (i8 + 1) (w64 (v8_0 + x8))
    else
      .x1 i8 x8 v8_0
def lr_orders_CheckAreas_8 (e : S_Estate) (l : GS Int) : LR_orders_CheckAreas_8 → Exit × St
  | .x0 v8_0 => ((.exit 0), ⟨54, [(24, B false), (2, .lref 0 0 3 0), (6, I v8_0), (21, .sl l.nl (l.l.map I) (zsl l.nl 1) none), (22, I ((l.l.length : Nat) : Int)), (23, I ((l.l.length : Nat) : Int))], [(0, ⟨[.agg [.sl e.items.nl (e.items.l.map S_Item.D) (zsl e.items.nl 4) none, I e.whole.lo, I e.whole.hi]], 3, false⟩)], 1, 0⟩)
  | .x1 i8 x8 v8_0 => (.ret, ⟨54, [(4, I 80), (40, B true), (39, B false), (38, I ((GS.at e.items ((i8 : Nat) : Int)).now.hi)), (37, .lref 1 0 2 1), (36, I ((GS.at e.items ((i8 : Nat) : Int)).now.lo)), (35, .lref 1 0 2 0), (34, I x8), (9, .lref 1 0 2 0), (33, .agg [I ((GS.at e.items ((i8 : Nat) : Int)).now.lo), I ((GS.at e.items ((i8 : Nat) : Int)).now.hi)]), (32, .ptr (.agg [I ((GS.at e.items ((i8 : Nat) : Int)).now.lo), I ((GS.at e.items ((i8 : Nat) : Int)).now.hi)])), (31, .ptr (.agg [I ((GS.at e.items ((i8 : Nat) : Int)).now.lo), I ((GS.at e.items ((i8 : Nat) : Int)).now.hi), I ((GS.at e.items ((i8 : Nat) : Int)).cost), I ((GS.at e.items ((i8 : Nat) : Int)).error)])), (30, I ((i8 : Nat) : Int)), (29, .sl e.items.nl (e.items.l.map S_Item.D) (zsl e.items.nl 4) none), (28, .lref 0 0 3 0), (8, I x8), (7, I ((i8 : Nat) : Int)), (27, I x8), (26, .ptr (I x8)), (25, I ((i8 : Nat) : Int)), (24, B true), (2, .lref 0 0 3 0), (6, I v8_0), (21, .sl l.nl (l.l.map I) (zsl l.nl 1) none), (22, I ((l.l.length : Nat) : Int)), (23, I ((i8 : Nat) : Int))], [(0, ⟨[.agg [.sl e.items.nl (e.items.l.map S_Item.D) (zsl e.items.nl 4) none, I e.whole.lo, I e.whole.hi]], 3, false⟩), (1, ⟨[.agg [I ((GS.at e.items ((i8 : Nat) : Int)).now.lo), I ((GS.at e.items ((i8 : Nat) : Int)).now.hi)]], 2, false⟩)], 2, 0⟩)
theorem lp_orders_CheckAreas_8 (e : S_Estate) (l : GS Int) : ∀ (rest8 : List Int) (i8 : Nat) (v8_0 : Int) (hd8 : l.l.drop i8 = rest8) (hi8 : i8 ≤ l.l.length) (hS : l.l.length = e.items.l.length) (hL8 : l.l.length ≤ 9223372036854775807), (lim cfg).loop 33 lp33_8 ⟨54, [(2, .lref 0 0 3 0), (6, I v8_0), (21, .sl l.nl (l.l.map I) (zsl l.nl 1) none), (22, I ((l.l.length : Nat) : Int)), (23, I ((i8 : Nat) : Int))], [(0, ⟨[.agg [.sl e.items.nl (e.items.l.map S_Item.D) (zsl e.items.nl 4) none, I e.whole.lo, I e.whole.hi]], 3, false⟩)], 1, 0⟩ = some (lr_orders_CheckAreas_8 e l (orders_CheckAreas_8 e rest8 i8 v8_0)) := by
  intro rest8
  induction rest8 with
  | nil =>
    intro i8 v8_0 hd8 hi8 hS hL8
    unfold orders_CheckAreas_8
    obtain rfl : i8 = l.l.length := nil_eq hd8 hi8
    exact zH [.dec false] (And.intro (lt_no hd8) trivial) (by kernel_rfl)
  | cons x8 rest8 ih =>
    intro i8 v8_0 hd8 hi8 hS hL8
    have hlt8 := zv hd8
    unfold orders_CheckAreas_8
    cases h4 : (zt x8 ((GS.at e.items ((i8 : Nat) : Int)).now.lo) ((GS.at e.items ((i8 : Nat) : Int)).now.hi)) with
    | true =>
      have g4 := within_t h4
      exact po_turn [.dec true, .el (I x8), .el (.agg [I ((GS.at e.items ((i8 : Nat) : Int)).now.lo), I ((GS.at e.items ((i8 : Nat) : Int)).now.hi), I ((GS.at e.items ((i8 : Nat) : Int)).cost), I ((GS.at e.items ((i8 : Nat) : Int)).error)]), .pure (B (zt x8 ((GS.at e.items ((i8 : Nat) : Int)).now.lo) ((GS.at e.items ((i8 : Nat) : Int)).now.hi))), .dec true, .rw 44 (I ((i8 + 1 : Nat) : Int))] (And.intro (inc_rw (i := i8) (by have := zv hd8; omega)) (And.intro h4 (And.intro (T_orders_within x8 ((GS.at e.items ((i8 : Nat) : Int)).now.lo) ((GS.at e.items ((i8 : Nat) : Int)).now.hi)) (And.intro (el_in (s := e.items) (f := S_Item.D) (k := 4) (i := ((i8 : Nat) : Int)) (by first | assumption | omega | (simp only [z8] at * <;> omega) | (simp only [GS.some_l, List.length_set, List.length_append, List.length_cons, List.length_nil] at * <;> first | with_reducible assumption | omega) | (simp only [GS.some_l, List.length_set, List.length_append, List.length_cons, List.length_nil, z8] at * <;> first | with_reducible assumption | omega) | (simp at * <;> omega)) (by first | assumption | omega | (simp only [z8] at * <;> omega) | (simp only [GS.some_l, List.length_set, List.length_append, List.length_cons, List.length_nil] at * <;> first | with_reducible assumption | omega) | (simp only [GS.some_l, List.length_set, List.length_append, List.length_cons, List.length_nil, z8] at * <;> first | with_reducible assumption | omega) | (simp at * <;> omega))) (And.intro (el_at (s := l) (f := I) (k := 1) hd8) (And.intro (lt_at hd8) trivial)))))) (ih (i8 + 1) (w64 (v8_0 + x8)) (zA hd8) (zv hd8) (by first | assumption | omega | (simp only [z8] at * <;> omega) | (simp only [GS.some_l, List.length_set, List.length_append, List.length_cons, List.length_nil] at * <;> first | with_reducible assumption | omega) | (simp only [GS.some_l, List.length_set, List.length_append, List.length_cons, List.length_nil, z8] at * <;> first | with_reducible assumption | omega) | (simp at * <;> omega)) (by first | assumption | omega | (simp only [z8] at * <;> omega) | (simp only [GS.some_l, List.length_set, List.length_append, List.length_cons, List.length_nil] at * <;> first | with_reducible assumption | omega) | (simp only [GS.some_l, List.length_set, List.length_append, List.length_cons, List.length_nil, z8] at * <;> first | with_reducible assumption | omega) | (simp at * <;> omega))) (by kernel_rfl)
    | false =>
      have g4 := within_f h4
      exact zH [.dec true, .el (I x8), .el (.agg [I ((GS.at e.items ((i8 : Nat) : Int)).now.lo), I ((GS.at e.items ((i8 : Nat) : Int)).now.hi), I ((GS.at e.items ((i8 : Nat) : Int)).cost), I ((GS.at e.items ((i8 : Nat) : Int)).error)]), .pure (B (zt x8 ((GS.at e.items ((i8 : Nat) : Int)).now.lo) ((GS.at e.items ((i8 : Nat) : Int)).now.hi))), .dec false] (And.intro h4 (And.intro (T_orders_within x8 ((GS.at e.items ((i8 : Nat) : Int)).now.lo) ((GS.at e.items ((i8 : Nat) : Int)).now.hi)) (And.intro (el_in (s := e.items) (f := S_Item.D) (k := 4) (i := ((i8 : Nat) : Int)) (by first | assumption | omega | (simp only [z8] at * <;> omega) | (simp only [GS.some_l, List.length_set, List.length_append, List.length_cons, List.length_nil] at * <;> first | with_reducible assumption | omega) | (simp only [GS.some_l, List.length_set, List.length_append, List.length_cons, List.length_nil, z8] at * <;> first | with_reducible assumption | omega) | (simp at * <;> omega)) (by first | assumption | omega | (simp only [z8] at * <;> omega) | (simp only [GS.some_l, List.length_set, List.length_append, List.length_cons, List.length_nil] at * <;> first | with_reducible assumption | omega) | (simp only [GS.some_l, List.length_set, List.length_append, List.length_cons, List.length_nil, z8] at * <;> first | with_reducible assumption | omega) | (simp at * <;> omega))) (And.intro (el_at (s := l) (f := I) (k := 1) hd8) (And.intro (lt_at hd8) trivial))))) (by kernel_rfl)

def zO (e : S_Estate) (l : GS Int) : Int :=
  bif ((zo e) != 0) then
    (zo e)
  else
    bif (((l.l.length : Nat) : Int) != ((e.items.l.length : Nat) : Int)) then
      80
    else
      match orders_CheckAreas_8 e l.l 0 0 with
      | .x0 v8_0 =>
        bif (zt v8_0 e.whole.lo e.whole.hi) then
          0
        else
          80
      | .x1 i8 x8 v8_0 =>
        80

def orders_CheckAreas_o1 (e : S_Estate) (l : GS Int) : List Ora := [.pure (I (zo e)), .dec false, .rw 16 (I ((l.l.length : Nat) : Int)), .rw 19 (I ((e.items.l.length : Nat) : Int))]

def sd20 (e : S_Estate) (l : GS Int) (v8_0 : Int) : St := ⟨54, [(24, B false), (2, .lref 0 0 3 0), (6, I v8_0), (21, .sl l.nl (l.l.map I) (zsl l.nl 1) none), (22, I ((l.l.length : Nat) : Int)), (23, I ((l.l.length : Nat) : Int))], [(0, ⟨[.agg [.sl e.items.nl (e.items.l.map S_Item.D) (zsl e.items.nl 4) none, I e.whole.lo, I e.whole.hi]], 3, false⟩)], 1, 0⟩

def orders_CheckAreas_o2 (e : S_Estate) (l : GS Int) (v8_0 : Int) : List Ora := [.dec false, .rw 22 (I ((l.l.length : Nat) : Int)), .loop (.exit 0) (sd20 e l v8_0), .pure (B (zt v8_0 e.whole.lo e.whole.hi))]

def sd21 (e : S_Estate) (l : GS Int) (i8 : Nat) (x8 : Int) (v8_0 : Int) : St := ⟨54, [(4, I 80), (40, B true), (39, B false), (38, I ((GS.at e.items ((i8 : Nat) : Int)).now.hi)), (37, .lref 1 0 2 1), (36, I ((GS.at e.items ((i8 : Nat) : Int)).now.lo)), (35, .lref 1 0 2 0), (34, I x8), (9, .lref 1 0 2 0), (33, .agg [I ((GS.at e.items ((i8 : Nat) : Int)).now.lo), I ((GS.at e.items ((i8 : Nat) : Int)).now.hi)]), (32, .ptr (.agg [I ((GS.at e.items ((i8 : Nat) : Int)).now.lo), I ((GS.at e.items ((i8 : Nat) : Int)).now.hi)])), (31, .ptr (.agg [I ((GS.at e.items ((i8 : Nat) : Int)).now.lo), I ((GS.at e.items ((i8 : Nat) : Int)).now.hi), I ((GS.at e.items ((i8 : Nat) : Int)).cost), I ((GS.at e.items ((i8 : Nat) : Int)).error)])), (30, I ((i8 : Nat) : Int)), (29, .sl e.items.nl (e.items.l.map S_Item.D) (zsl e.items.nl 4) none), (28, .lref 0 0 3 0), (8, I x8), (7, I ((i8 : Nat) : Int)), (27, I x8), (26, .ptr (I x8)), (25, I ((i8 : Nat) : Int)), (24, B true), (2, .lref 0 0 3 0), (6, I v8_0), (21, .sl l.nl (l.l.map I) (zsl l.nl 1) none), (22, I ((l.l.length : Nat) : Int)), (23, I ((i8 : Nat) : Int))], [(0, ⟨[.agg [.sl e.items.nl (e.items.l.map S_Item.D) (zsl e.items.nl 4) none, I e.whole.lo, I e.whole.hi]], 3, false⟩), (1, ⟨[.agg [I ((GS.at e.items ((i8 : Nat) : Int)).now.lo), I ((GS.at e.items ((i8 : Nat) : Int)).now.hi)]], 2, false⟩)], 2, 0⟩

theorem T_orders_CheckAreas (e : S_Estate) (l : GS Int) (hL_l : l.l.length ≤ 9223372036854775807) : (lim cfg).pure 33 [S_Estate.D e, GS.D I 1 l] = some (I (zO e l)) := by
  unfold zO
  cases h1 : ((zo e) != 0) with
  | true =>
    have g1 := y0 h1
    exact zh [.pure (I (zo e)), .dec true] (And.intro h1 (And.intro (zy e) trivial)) (by kernel_rfl)
  | false =>
    have g1 := check_len (zF h1)
    cases h2 : (((l.l.length : Nat) : Int) != ((e.items.l.length : Nat) : Int)) with
    | true =>
      have g2 := y0 h2
      exact zh ((orders_CheckAreas_o1 e l) ++ [.dec true]) (And.intro h2 (And.intro (zn S_Item.D e.items) (And.intro (zn I l) (And.intro h1 (And.intro (zy e) trivial))))) (by kernel_rfl)
    | false =>
      have g2 := zF h2
      cases h5 : orders_CheckAreas_8 e l.l 0 0 with
      | x0 v8_0 =>
        try dsimp only
        have p1 := (po_lr (q := lr_orders_CheckAreas_8 e l) (lp_orders_CheckAreas_8 e l l.l 0 0 (List.drop_zero) (Nat.zero_le _) (by first | assumption | omega | (simp only [z8] at * <;> omega) | (simp only [GS.some_l, List.length_set, List.length_append, List.length_cons, List.length_nil] at * <;> first | with_reducible assumption | omega) | (simp only [GS.some_l, List.length_set, List.length_append, List.length_cons, List.length_nil, z8] at * <;> first | with_reducible assumption | omega) | (simp at * <;> omega)) (by first | assumption | omega | (simp only [z8] at * <;> omega) | (simp only [GS.some_l, List.length_set, List.length_append, List.length_cons, List.length_nil] at * <;> first | with_reducible assumption | omega) | (simp only [GS.some_l, List.length_set, List.length_append, List.length_cons, List.length_nil, z8] at * <;> first | with_reducible assumption | omega) | (simp at * <;> omega))) h5)
        have p2 := (T_orders_within v8_0 e.whole.lo e.whole.hi)
        cases h6 : (zt v8_0 e.whole.lo e.whole.hi) with
        | true =>
          have g6 := within_t h6
          exact zh ((orders_CheckAreas_o1 e l) ++ ((orders_CheckAreas_o2 e l v8_0) ++ [.dec true])) (And.intro h6 (And.intro p2 (And.intro p1 (And.intro (zn I l) (And.intro h2 (And.intro (zn S_Item.D e.items) (And.intro (zn I l) (And.intro h1 (And.intro (zy e) trivial))))))))) (by kernel_rfl)
        | false =>
          have g6 := within_f h6
          exact zh ((orders_CheckAreas_o1 e l) ++ ((orders_CheckAreas_o2 e l v8_0) ++ [.dec false])) (And.intro h6 (And.intro p2 (And.intro p1 (And.intro (zn I l) (And.intro h2 (And.intro (zn S_Item.D e.items) (And.intro (zn I l) (And.intro h1 (And.intro (zy e) trivial))))))))) (by kernel_rfl)
      | x1 i8 x8 v8_0 =>
        try dsimp only
        exact zh ((orders_CheckAreas_o1 e l) ++ [.dec false, .rw 22 (I ((l.l.length : Nat) : Int)), .loop .ret (sd21 e l i8 x8 v8_0)]) (And.intro (po_lr (q := lr_orders_CheckAreas_8 e l) (lp_orders_CheckAreas_8 e l l.l 0 0 (List.drop_zero) (Nat.zero_le _) (by first | assumption | omega | (simp only [z8] at * <;> omega) | (simp only [GS.some_l, List.length_set, List.length_append, List.length_cons, List.length_nil] at * <;> first | with_reducible assumption | omega) | (simp only [GS.some_l, List.length_set, List.length_append, List.length_cons, List.length_nil, z8] at * <;> first | with_reducible assumption | omega) | (simp at * <;> omega)) (by first | assumption | omega | (simp only [z8] at * <;> omega) | (simp only [GS.some_l, List.length_set, List.length_append, List.length_cons, List.length_nil] at * <;> first | with_reducible assumption | omega) | (simp only [GS.some_l, List.length_set, List.length_append, List.length_cons, List.length_nil, z8] at * <;> first | with_reducible assumption | omega) | (simp at * <;> omega))) h5) (And.intro (zn I l) (And.intro h2 (And.intro (zn S_Item.D e.items) (And.intro (zn I l) (And.intro h1 (And.intro (zy e) trivial))))))) (by kernel_rfl)

def orders_Part (e : S_Estate) (item : Int) : S_Span × Int :=
  bif ((zo e) != 0) then
    ((⟨0, 0⟩ : S_Span), (zo e))
  else
    bif (zt item 0 (w64 (((e.items.l.length : Nat) : Int) - 1))) then
      ((orders_part e item), 0)
    else
      ((⟨0, 0⟩ : S_Span), 1)

def orders_Part_o1 (e : S_Estate) (item : Int) : List Ora := [.pure (I (zo e)), .dec false, .rw 16 (I ((e.items.l.length : Nat) : Int)), .pure (B (zt item 0 (w64 (((e.items.l.length : Nat) : Int) - 1))))]

theorem T_orders_Part (e : S_Estate) (item : Int) (hL_e_items : e.items.l.length ≤ 9223372036854775807) : (lim cfg).pure 37 [S_Estate.D e, I item] = some (.tup [S_Span.D ((orders_Part e item).1), I ((orders_Part e item).2)]) := by
  unfold orders_Part
  cases h1 : ((zo e) != 0) with
  | true =>
    have g1 := y0 h1
    exact zh [.pure (I (zo e)), .dec true] (And.intro h1 (And.intro (zy e) trivial)) (by kernel_rfl)
  | false =>
    have g1 := check_len (zF h1)
    have p1 := (T_orders_within item 0 (w64 (((e.items.l.length : Nat) : Int) - 1)))
    cases h2 : (zt item 0 (w64 (((e.items.l.length : Nat) : Int) - 1))) with
    | true =>
      have g2 := within_t h2
      exact zh ((orders_Part_o1 e item) ++ [.dec true, .pure (.agg [I ((orders_part e item).lo), I ((orders_part e item).hi)])]) (And.intro (T_orders_part e item (by first | assumption | omega | (simp only [z8] at * <;> omega) | (simp only [GS.some_l, List.length_set, List.length_append, List.length_cons, List.length_nil] at * <;> first | with_reducible assumption | omega) | (simp only [GS.some_l, List.length_set, List.length_append, List.length_cons, List.length_nil, z8] at * <;> first | with_reducible assumption | omega) | (simp at * <;> omega)) (by first | assumption | omega | (simp only [z8] at * <;> omega) | (simp only [GS.some_l, List.length_set, List.length_append, List.length_cons, List.length_nil] at * <;> first | with_reducible assumption | omega) | (simp only [GS.some_l, List.length_set, List.length_append, List.length_cons, List.length_nil, z8] at * <;> first | with_reducible assumption | omega) | (simp at * <;> omega))) (And.intro h2 (And.intro p1 (And.intro (zn S_Item.D e.items) (And.intro h1 (And.intro (zy e) trivial)))))) (by kernel_rfl)
    | false =>
      have g2 := within_f h2
      exact zh ((orders_Part_o1 e item) ++ [.dec false]) (And.intro h2 (And.intro p1 (And.intro (zn S_Item.D e.items) (And.intro h1 (And.intro (zy e) trivial))))) (by kernel_rfl)
end Go.VS
/-
  Orders: what an estate's functions come to, in plain numbers. (A text of this claim's own; nothing of it is trusted.)
-/
namespace Go.VS
def sLo : List S_Item → Int
  | [] => 0
  | x :: l => x.now.lo + sLo l
def sHi : List S_Item → Int
  | [] => 0
  | x :: l => x.now.hi + sHi l
def OkItem (x : S_Item) : Prop := 0 ≤ x.now.lo ∧ x.now.lo ≤ x.now.hi ∧ x.now.hi ≤ 1073741824 ∧ 0 ≤ x.cost ∧ x.cost ≤ 10000 ∧ 0 ≤ x.error ∧ x.error ≤ 1048576
def OkSpans (l : List S_Item) : Prop := ∀ x ∈ l, 0 ≤ x.now.lo ∧ x.now.lo ≤ x.now.hi ∧ x.now.hi ≤ 1073741824
structure V (e : S_Estate) : Prop where
  n1 : 1 ≤ e.items.l.length
  n2 : e.items.l.length ≤ 12
  w0 : 0 ≤ e.whole.lo
  w1 : e.whole.lo ≤ e.whole.hi
  w2 : e.whole.hi ≤ 17179869184
  it : ∀ x ∈ e.items.l, OkItem x
  lo : sLo e.items.l ≤ e.whole.hi
  hi : e.whole.lo ≤ sHi e.items.l
theorem okSpans_of {l : List S_Item} (h : ∀ x ∈ l, OkItem x) : OkSpans l := fun x hx => ⟨(h x hx).1, (h x hx).2.1, (h x hx).2.2.1⟩
theorem V.sp {e : S_Estate} (h : V e) : OkSpans e.items.l := okSpans_of h.it
theorem sums_bd {l : List S_Item} (h : OkSpans l) : 0 ≤ sLo l ∧ sLo l ≤ sHi l ∧ sHi l ≤ 1073741824 * (l.length : Int) := by
  induction l with
  | nil => simp [sLo, sHi]
  | cons x l ih =>
    have h1 := ih fun y hy => h y (List.mem_cons_of_mem _ hy)
    have h2 := h x List.mem_cons_self
    simp only [sLo, sHi, List.length_cons]
    omega
theorem all2_eq {l : List S_Item} (h : OkSpans l) : ∀ (a b : Int), 0 ≤ a → 0 ≤ b → a + 1073741824 * (l.length : Int) ≤ 4611686018427387904 → b + 1073741824 * (l.length : Int) ≤ 4611686018427387904 → orders_all_2 l a b = .x0 (a + sLo l) (b + sHi l) := by
  induction l with
  | nil => intro a b _ _ _ _; simp [orders_all_2, sLo, sHi]
  | cons x l ih =>
    intro a b h1 h2 h3 h4
    have hx := h x List.mem_cons_self
    simp only [List.length_cons] at h3 h4
    unfold orders_all_2
    rw [w64_eq (by omega) (by omega), w64_eq (by omega) (by omega), ih (fun y hy => h y (List.mem_cons_of_mem _ hy)) _ _ (by omega) (by omega) (by omega) (by omega)]
    simp only [sLo, sHi]
    congr 1 <;> omega
theorem rall2_eq (l : List S_Item) : ∀ (a b : Int), ∃ c d, r_All_3 l a b = .x0 c d ∧ orders_all_2 l a b = .x0 c d := by
  induction l with
  | nil => intro a b; exact ⟨a, b, rfl, rfl⟩
  | cons x l ih => intro a b; exact ih _ _
theorem rall_eq (e : S_Estate) : r_All e = zm e := by
  obtain ⟨c, d, h1, h2⟩ := rall2_eq e.items.l 0 0
  unfold r_All zm
  rw [h1, h2]
theorem all_eq {e : S_Estate} (h : OkSpans e.items.l) (hn : e.items.l.length ≤ 12) : zm e = ⟨sLo e.items.l, sHi e.items.l⟩ := by
  unfold zm
  rw [all2_eq h 0 0 (by omega) (by omega) (by omega) (by omega)]
  simp
theorem span_iff {x : S_Span} {m : Int} : orders_span x m = true ↔ 0 ≤ x.lo ∧ x.lo ≤ x.hi ∧ x.hi ≤ m := by
  unfold orders_span
  simp only [Bool.cond_decide]
  split
  · split
    · split
      · simp; omega
      · simp; omega
    · simp; omega
  · simp; omega
theorem within_iff {n lo hi : Int} : zt n lo hi = true ↔ lo ≤ n ∧ n ≤ hi := by simp [within_eq]
theorem common_eq (x y : S_Span) : zf x y = (⟨max x.lo y.lo, min x.hi y.hi⟩, decide (max x.lo y.lo ≤ min x.hi y.hi)) := by
  unfold zf
  rw [imax_eq, imin_eq]
  cases decide (max x.lo y.lo ≤ min x.hi y.hi) <;> rfl
theorem check4_iff {l : List S_Item} {i : Nat} : orders_Check_4 l i = .x0 ↔ ∀ x ∈ l, OkItem x := by
  induction l generalizing i with
  | nil => simp [orders_Check_4]
  | cons x l ih =>
    unfold orders_Check_4
    simp only [List.forall_mem_cons]
    cases h1 : orders_span x.now 1073741824 with
    | false =>
      simp only [cond_false]
      constructor
      · intro h; cases h
      · rintro ⟨h, _⟩; rw [span_iff.2 ⟨h.1, h.2.1, h.2.2.1⟩] at h1; cases h1
    | true =>
      cases h2 : zt x.cost 0 10000 with
      | false =>
        simp only [cond_false, cond_true]
        constructor
        · intro h; cases h
        · rintro ⟨h, _⟩; rw [within_iff.2 ⟨h.2.2.2.1, h.2.2.2.2.1⟩] at h2; cases h2
      | true =>
        cases h3 : zt x.error 0 1048576 with
        | false =>
          simp only [cond_false, cond_true]
          constructor
          · intro h; cases h
          · rintro ⟨h, _⟩; rw [within_iff.2 ⟨h.2.2.2.2.2.1, h.2.2.2.2.2.2⟩] at h3; cases h3
        | true =>
          simp only [cond_true, ih]
          have a1 := span_iff.1 h1
          have a2 := within_iff.1 h2
          have a3 := within_iff.1 h3
          exact ⟨fun h => ⟨⟨a1.1, a1.2.1, a1.2.2, a2.1, a2.2, a3.1, a3.2⟩, h⟩, fun h => h.2⟩
theorem check_cases (e : S_Estate) : zo e = 0 ∨ zo e = 80 := by
  unfold zo
  cases zt ((e.items.l.length : Nat) : Int) 1 12 <;> cases orders_span e.whole 17179869184 <;> simp only [cond_true, cond_false] <;> try (exact .inr trivial)
  split <;> first | (exact .inr rfl) | skip
  cases (zf (zm e) e.whole).2 <;> simp
theorem check_iff {e : S_Estate} : zo e = 0 ↔ V e := by
  unfold zo
  cases h1 : zt ((e.items.l.length : Nat) : Int) 1 12 with
  | false =>
    simp only [cond_false]
    refine ⟨fun h => by omega, fun h => ?_⟩
    rw [within_iff.2 ⟨by have := h.n1; omega, by have := h.n2; omega⟩] at h1; cases h1
  | true =>
    have a1 := within_iff.1 h1
    cases h2 : orders_span e.whole 17179869184 with
    | false =>
      simp only [cond_false, cond_true]
      refine ⟨fun h => by omega, fun h => ?_⟩
      rw [span_iff.2 ⟨h.w0, h.w1, h.w2⟩] at h2; cases h2
    | true =>
      have a2 := span_iff.1 h2
      simp only [cond_true]
      by_cases h3 : orders_Check_4 e.items.l 0 = .x0
      · have a3 := check4_iff.1 h3
        rw [h3, common_eq, all_eq (okSpans_of a3) (by omega)]
        simp only []
        have hb := sums_bd (okSpans_of a3)
        by_cases h4 : max (sLo e.items.l) e.whole.lo ≤ min (sHi e.items.l) e.whole.hi
        · simp only [h4, decide_true, cond_true, true_iff]
          exact ⟨by omega, by omega, a2.1, a2.2.1, a2.2.2, a3, by omega, by omega⟩
        · simp only [h4, decide_false, cond_false]
          refine ⟨fun h => by omega, fun h => absurd ?_ h4⟩
          have := h.lo; have := h.hi; have := h.w1
          omega
      · constructor
        · intro h
          exfalso
          split at h
          · rename_i h5; exact h3 h5
          all_goals omega
        · intro h; exact absurd (check4_iff.2 h.it) h3
theorem valid4_iff {l : List S_Item} {i : Nat} : r_Valid_4 l i = .x0 ↔ ∀ x ∈ l, OkItem x := by
  induction l generalizing i with
  | nil => simp [r_Valid_4]
  | cons x l ih =>
    unfold r_Valid_4
    simp only [List.forall_mem_cons, Bool.cond_decide, OkItem]
    repeat' split
    all_goals first
      | (constructor
         · intro h; cases h
         · intro h; exfalso; omega)
      | (rw [ih]
         constructor
         · intro h; exact ⟨by omega, h⟩
         · intro h; exact h.2)
theorem valid_iff {e : S_Estate} : zR e = true ↔ V e := by
  unfold zR
  simp only [Bool.cond_decide]
  constructor
  · intro h
    split at h
    · cases h
    split at h
    · cases h
    split at h
    · cases h
    split at h
    · cases h
    split at h
    · cases h
    split at h
    · rename_i h1 h2 h3 h4 h5 h6
      have a3 := valid4_iff.1 h6
      rw [rall_eq, all_eq (okSpans_of a3) (by omega)] at h
      simp only [] at h
      split at h
      · split at h
        · exact ⟨by omega, by omega, by omega, by omega, by omega, a3, by omega, by omega⟩
        · cases h
      · cases h
    all_goals cases h
  · intro h
    have := h.n1; have := h.n2; have := h.w0; have := h.w1; have := h.w2
    rw [if_neg (by omega), if_neg (by omega), if_neg (by omega), if_neg (by omega), if_neg (by omega), valid4_iff.2 h.it]
    simp only [rall_eq, all_eq h.sp h.n2]
    rw [if_pos h.lo, if_pos h.hi]
theorem check_valid (e : S_Estate) : zo e = if zR e then 0 else 80 := by
  rcases check_cases e with h | h
  · rw [if_pos (valid_iff.2 (check_iff.1 h)), h]
  · rw [if_neg (fun hv => by have := check_iff.2 (valid_iff.1 hv); omega), h]
/-! ### allowed areas -/
def tot : List Int → Int
  | [] => 0
  | x :: l => x + tot l
/-- Areas within the items' spans. -/
def In : List S_Item → List Int → Prop
  | [], [] => True
  | x :: l, b :: a => (x.now.lo ≤ b ∧ b ≤ x.now.hi) ∧ In l a
  | _, _ => False
theorem In.len : ∀ {l : List S_Item} {a : List Int}, In l a → a.length = l.length
  | [], [], _ => rfl
  | [], _ :: _, h => h.elim
  | _ :: _, [], h => h.elim
  | x :: l, b :: a, h => by simp only [List.length_cons, h.2.len]
theorem In.bd : ∀ {l : List S_Item} {a : List Int}, In l a → sLo l ≤ tot a ∧ tot a ≤ sHi l
  | [], [], _ => ⟨Int.le_refl _, Int.le_refl _⟩
  | [], _ :: _, h => h.elim
  | _ :: _, [], h => h.elim
  | x :: l, b :: a, h => by have := h.2.bd; have := h.1; simp only [sLo, sHi, tot]; omega
def Allowed (e : S_Estate) (a : List Int) : Prop := In e.items.l a ∧ e.whole.lo ≤ tot a ∧ tot a ≤ e.whole.hi
theorem drop_at {α : Type} [Inhabited α] {s : GS α} {i : Nat} {x : α} {l : List α} (h : s.l.drop i = x :: l) : s.at ((i : Nat) : Int) = x := at_of h
/-- The loop over areas. -/
theorem areas8 {e : S_Estate} (hs : OkSpans e.items.l) (hn : e.items.l.length ≤ 12) : ∀ (a : List Int) (i : Nat) (l : List S_Item) (n : Int), e.items.l.drop i = l → a.length = l.length → 0 ≤ n → n + 1073741824 * (l.length : Int) ≤ 4611686018427387904 →
    (In l a → orders_CheckAreas_8 e a i n = .x0 (n + tot a)) ∧ (¬ In l a → ∃ j x m, orders_CheckAreas_8 e a i n = .x1 j x m)
  | [], i, [], n, _, _, _, _ => ⟨fun _ => by simp [orders_CheckAreas_8, tot], fun h => (h trivial).elim⟩
  | [], _, _ :: _, _, _, h, _, _ => by simp at h
  | _ :: _, _, [], _, _, h, _, _ => by simp at h
  | b :: a, i, x :: l, n, hd, hl, h0, h1 => by
    have hx := drop_at hd
    have hm : x ∈ e.items.l := mem_drop hd
    have hb := hs x hm
    simp only [List.length_cons] at h1 hl
    unfold orders_CheckAreas_8
    rw [hx]
    cases hw : zt b x.now.lo x.now.hi with
    | false =>
      simp only [cond_false]
      have hn' : ¬ (x.now.lo ≤ b ∧ b ≤ x.now.hi) := fun h => by rw [within_iff.2 h] at hw; cases hw
      exact ⟨fun h => absurd h.1 hn', fun _ => ⟨_, _, _, rfl⟩⟩
    | true =>
      have hw' := within_iff.1 hw
      simp only [cond_true]
      rw [w64_eq (by omega) (by omega)]
      have ih := areas8 hs hn a (i + 1) l (n + b) (zA hd) (by omega) (by omega) (by omega)
      refine ⟨fun h => ?_, fun h => ih.2 fun h2 => h ⟨hw', h2⟩⟩
      rw [ih.1 h.2]
      simp only [tot]
      congr 1
      omega
theorem areas_iff {e : S_Estate} (h : V e) (a : GS Int) : (zO e a = 0 ↔ Allowed e a.l) ∧ (zO e a = 0 ∨ zO e a = 80) := by
  unfold zO
  rw [check_iff.2 h]
  have h2 := h.n2
  cases hl : (((a.l.length : Nat) : Int) != ((e.items.l.length : Nat) : Int)) with
  | true =>
    have := y0 hl
    simp only [bne_self_eq_false, cond_false, cond_true]
    exact ⟨⟨fun h => by omega, fun h => by have := h.1.len; omega⟩, .inr trivial⟩
  | false =>
    have hl' := zF hl
    simp only [bne_self_eq_false, cond_false]
    have k := areas8 h.sp h2 a.l 0 e.items.l 0 List.drop_zero (by omega) (by omega) (by omega)
    by_cases hin : In e.items.l a.l
    · rw [k.1 hin]
      simp only [Int.zero_add]
      cases hw : zt (tot a.l) e.whole.lo e.whole.hi with
      | true => exact ⟨⟨fun _ => ⟨hin, within_iff.1 hw⟩, fun _ => rfl⟩, .inl rfl⟩
      | false => exact ⟨⟨fun h => by simp at h, fun h => by rw [within_iff.2 h.2] at hw; cases hw⟩, .inr rfl⟩
    · obtain ⟨j, x, m, hj⟩ := k.2 hin
      rw [hj]
      exact ⟨⟨fun h => by simp at h, fun h => absurd h.1 hin⟩, .inr rfl⟩
/-- Areas of a sum. -/
def fillL : List S_Item → Int → List Int
  | [], _ => []
  | x :: l, r => (x.now.lo + min (max r 0) (x.now.hi - x.now.lo)) :: fillL l (r - min (max r 0) (x.now.hi - x.now.lo))
theorem fillL_ok {l : List S_Item} (h : OkSpans l) : ∀ {r : Int}, 0 ≤ r → r ≤ sHi l - sLo l → In l (fillL l r) ∧ tot (fillL l r) = sLo l + r := by
  induction l with
  | nil => intro r h0 h1; simp only [sLo, sHi] at h1; simp only [fillL, In, tot, sLo]; exact ⟨trivial, by omega⟩
  | cons x l ih =>
    intro r h0 h1
    have hx := h x List.mem_cons_self
    have hb := sums_bd (fun y hy => h y (List.mem_cons_of_mem _ hy) : OkSpans l)
    simp only [sLo, sHi] at h1
    have := ih (fun y hy => h y (List.mem_cons_of_mem _ hy)) (r := r - min (max r 0) (x.now.hi - x.now.lo)) (by omega) (by omega)
    simp only [fillL, In, tot, sLo]
    exact ⟨⟨by omega, this.1⟩, by omega⟩
/-- What the sum of all can be. -/
def loS (e : S_Estate) : Int := max (sLo e.items.l) e.whole.lo
def hiS (e : S_Estate) : Int := min (sHi e.items.l) e.whole.hi
theorem sum_eq {e : S_Estate} (h : V e) : zr e = (⟨loS e, hiS e⟩, 0) := by
  unfold zr
  rw [check_iff.2 h, common_eq, all_eq h.sp h.n2]
  have hb := sums_bd h.sp
  have := h.lo; have := h.hi; have := h.w1
  have h4 : max (sLo e.items.l) e.whole.lo ≤ min (sHi e.items.l) e.whole.hi := by omega
  simp [h4, loS, hiS]
theorem loS_hiS {e : S_Estate} (h : V e) : loS e ≤ hiS e := by
  have hb := sums_bd h.sp
  have := h.lo; have := h.hi; have := h.w1
  unfold loS hiS
  omega
/-- What an item's area can be. -/
def loP (e : S_Estate) (x : S_Item) : Int := max x.now.lo (e.whole.lo - (sHi e.items.l - x.now.hi))
def hiP (e : S_Estate) (x : S_Item) : Int := min x.now.hi (e.whole.hi - (sLo e.items.l - x.now.lo))
theorem part_eq {e : S_Estate} (h : V e) {i : Int} {x : S_Item} (hx : e.items.at i = x) (hm : x ∈ e.items.l) : orders_part e i = ⟨loP e x, hiP e x⟩ := by
  unfold orders_part
  rw [hx, common_eq, all_eq h.sp h.n2]
  have hb := sums_bd h.sp
  have h2 := h.n2; have := h.w0; have := h.w1; have := h.w2
  have h3 := h.sp x hm
  simp only []
  rw [w64_eq (n := sHi e.items.l - x.now.hi) (by omega) (by omega), w64_eq (n := sLo e.items.l - x.now.lo) (by omega) (by omega), w64_eq (by omega) (by omega), w64_eq (by omega) (by omega)]
  cases decide (max x.now.lo (e.whole.lo - (sHi e.items.l - x.now.hi)) ≤ min x.now.hi (e.whole.hi - (sLo e.items.l - x.now.lo))) <;> rfl
theorem at_mem {α : Type} [Inhabited α] {s : GS α} {i : Int} (h0 : 0 ≤ i) (h1 : i < (s.l.length : Int)) : s.at i ∈ s.l := by
  have hlt : i.toNat < s.l.length := by omega
  rw [GS.at, List.getD_eq_getElem?_getD, List.getElem?_eq_getElem hlt]
  exact List.getElem_mem hlt
theorem partF_eq {e : S_Estate} (h : V e) {i : Int} (h0 : 0 ≤ i) (h1 : i < (e.items.l.length : Int)) : orders_Part e i = (⟨loP e (e.items.at i), hiP e (e.items.at i)⟩, 0) := by
  unfold orders_Part
  have := h.n2
  rw [check_iff.2 h, w64_eq (by omega) (by omega), within_iff.2 ⟨h0, by omega⟩, part_eq h rfl (at_mem h0 h1)]
  rfl
end Go.VS
namespace Go.VS
open Go Go.Proofs
set_option maxHeartbeats 0
set_option linter.unusedSimpArgs false
set_option linter.unusedVariables false
def cmp_isNaN (a0 : Int) : Bool :=
  bif (a0 != a0) then
    true
  else
    false

theorem T_cmp_isNaN (a0 : Int) : (lim cfg).pure 112 [I a0] = some (B (cmp_isNaN a0)) := by
  unfold cmp_isNaN
  cases h1 : (a0 != a0) with
  | true =>
    have g1 := y0 h1
    exact zh [.dec true] (And.intro h1 trivial) (by kernel_rfl)
  | false =>
    have g1 := zF h1
    exact zh [.dec false] (And.intro h1 trivial) (by kernel_rfl)

def cmp_Less (a0 : Int) (a1 : Int) : Bool :=
  bif (cmp_isNaN a0) then
    bif (cmp_isNaN a1) then
      bif decide (a0 < a1) then
        true
      else
        false
    else
      true
  else
    bif decide (a0 < a1) then
      true
    else
      false

theorem T_cmp_Less (a0 : Int) (a1 : Int) : (lim cfg).pure 120 [I a0, I a1] = some (B (cmp_Less a0 a1)) := by
  unfold cmp_Less
  cases h1 : (cmp_isNaN a0) with
  | true =>
    cases h2 : (cmp_isNaN a1) with
    | true =>
      cases h3 : decide (a0 < a1) with
      | true =>
        have g3 := of_decide_eq_true h3
        exact zh [.pure (B (cmp_isNaN a0)), .dec true, .pure (B (cmp_isNaN a1)), .dec true, .dec true] (And.intro h3 (And.intro h2 (And.intro (T_cmp_isNaN a1) (And.intro h1 (And.intro (T_cmp_isNaN a0) trivial))))) (by kernel_rfl)
      | false =>
        have g3 := of_decide_eq_false h3
        exact zh [.pure (B (cmp_isNaN a0)), .dec true, .pure (B (cmp_isNaN a1)), .dec true, .dec false] (And.intro h3 (And.intro h2 (And.intro (T_cmp_isNaN a1) (And.intro h1 (And.intro (T_cmp_isNaN a0) trivial))))) (by kernel_rfl)
    | false =>
      exact zh [.pure (B (cmp_isNaN a0)), .dec true, .pure (B (cmp_isNaN a1)), .dec false] (And.intro h2 (And.intro (T_cmp_isNaN a1) (And.intro h1 (And.intro (T_cmp_isNaN a0) trivial)))) (by kernel_rfl)
  | false =>
    cases h4 : decide (a0 < a1) with
    | true =>
      have g4 := of_decide_eq_true h4
      exact zh [.pure (B (cmp_isNaN a0)), .dec false, .dec true] (And.intro h4 (And.intro h1 (And.intro (T_cmp_isNaN a0) trivial))) (by kernel_rfl)
    | false =>
      have g4 := of_decide_eq_false h4
      exact zh [.pure (B (cmp_isNaN a0)), .dec false, .dec false] (And.intro h4 (And.intro h1 (And.intro (T_cmp_isNaN a0) trivial))) (by kernel_rfl)

def bl12 (n : Int) : Int := [0,1,2,2,3,3,3,3,4,4,4,4,4].getD n.toNat 0
theorem T_bl {n : Int} (h0 : 0 ≤ n) (h1 : n ≤ 12) : (lim cfg).pure 111 [.val (.int .u64 (IntKind.u64.wrap n))] = some (I (bl12 n)) := by
  have : n = 0 ∨ n = 1 ∨ n = 2 ∨ n = 3 ∨ n = 4 ∨ n = 5 ∨ n = 6 ∨ n = 7 ∨ n = 8 ∨ n = 9 ∨ n = 10 ∨ n = 11 ∨ n = 12 := by omega
  rcases this with rfl | rfl | rfl | rfl | rfl | rfl | rfl | rfl | rfl | rfl | rfl | rfl | rfl <;> exact lim_pure.2 ⟨10, by kernel_rfl⟩

noncomputable def lp114_4 : Code := subC [1, 0, 0, 1, 0, 0, 1, 0, 0] (bodyC Tryz.f114)

def sd22 (l : List Int) (q4_0 : Int) (v4_0 : Int) (v4_1 : List Int) : St := ⟨49, [(7, I (w64 (v4_0 - 1))), (32, I (w64 (v4_0 - 1))), (31, I v4_0), (48, .lref 1 ((w64 (v4_0 - 1)).toNat) 1 0), (47, .lref 1 ((v4_0).toNat) 1 0), (46, I (v4_1.getD ((v4_0).toNat) default)), (45, .lref 1 ((v4_0).toNat) 1 0), (44, I v4_0), (43, .lsl 1 0 l.length 1 (some 4)), (42, I (v4_1.getD ((w64 (v4_0 - 1)).toNat) default)), (41, .lref 1 ((w64 (v4_0 - 1)).toNat) 1 0), (40, I (w64 (v4_0 - 1))), (39, I v4_0), (38, .lsl 1 0 l.length 1 (some 4)), (37, I (w64 (v4_0 - 1))), (36, I v4_0), (35, .lsl 1 0 l.length 1 (some 4)), (34, I v4_0), (33, .lsl 1 0 l.length 1 (some 4)), (30, B true), (29, B true), (28, I (v4_1.getD ((w64 (v4_0 - 1)).toNat) default)), (27, .lref 1 ((w64 (v4_0 - 1)).toNat) 1 0), (26, I (w64 (v4_0 - 1))), (25, I v4_0), (24, .lsl 1 0 l.length 1 (some 4)), (23, I (v4_1.getD ((v4_0).toNat) default)), (22, .lref 1 ((v4_0).toNat) 1 0), (21, I v4_0), (20, .lsl 1 0 l.length 1 (some 4)), (19, B true), (18, B true), (17, I 0), (16, I v4_0), (0, .lsl 1 0 l.length 1 (some 4)), (1, I 0), (2, I ((l.length : Nat) : Int)), (6, I q4_0), (7, I v4_0)], [(1, ⟨((v4_1.set ((v4_0).toNat) (v4_1.getD ((w64 (v4_0 - 1)).toNat) default)).set ((w64 (v4_0 - 1)).toNat) (v4_1.getD ((v4_0).toNat) default)).map I, 1, false⟩)], 2, 2⟩

inductive LR_isort4_4 where
  | x0 (v4_0 : Int) (v4_1 : List Int)
  | x1 (v4_0 : Int) (v4_1 : List Int)
  | out
instance : Inhabited LR_isort4_4 := ⟨.out⟩
def isort4_4 : Nat → Int → (List Int) → LR_isort4_4
  | 0, _, _ => .out
  | rest4 + 1, v4_0, v4_1 =>
    bif decide (v4_0 > 0) then
      bif (cmp_Less (v4_1.getD ((v4_0).toNat) default) (v4_1.getD ((w64 (v4_0 - 1)).toNat) default)) then
        isort4_4 rest4 (w64 (v4_0 - 1)) ((v4_1.set ((v4_0).toNat) (v4_1.getD ((w64 (v4_0 - 1)).toNat) default)).set ((w64 (v4_0 - 1)).toNat) (v4_1.getD ((v4_0).toNat) default))
      else
        .x0 v4_0 v4_1
    else
      .x1 v4_0 v4_1
def lr_isort4_4 (l : List Int) (q4_0 : Int) : LR_isort4_4 → Exit × St
  | .x0 v4_0 v4_1 => ((.exit 2), ⟨49, [(30, B false), (29, B false), (28, I (v4_1.getD ((w64 (v4_0 - 1)).toNat) default)), (27, .lref 1 ((w64 (v4_0 - 1)).toNat) 1 0), (26, I (w64 (v4_0 - 1))), (25, I v4_0), (24, .lsl 1 0 l.length 1 (some 4)), (23, I (v4_1.getD ((v4_0).toNat) default)), (22, .lref 1 ((v4_0).toNat) 1 0), (21, I v4_0), (20, .lsl 1 0 l.length 1 (some 4)), (19, B true), (18, B true), (17, I 0), (16, I v4_0), (0, .lsl 1 0 l.length 1 (some 4)), (1, I 0), (2, I ((l.length : Nat) : Int)), (6, I q4_0), (7, I v4_0)], [(1, ⟨v4_1.map I, 1, false⟩)], 2, 2⟩)
  | .x1 v4_0 v4_1 => ((.exit 2), ⟨49, [(30, B false), (29, .tup []), (28, .tup []), (27, .tup []), (26, .tup []), (25, .tup []), (24, .tup []), (23, .tup []), (22, .tup []), (21, .tup []), (20, .tup []), (19, B false), (18, B false), (17, I 0), (16, I v4_0), (0, .lsl 1 0 l.length 1 (some 4)), (1, I 0), (2, I ((l.length : Nat) : Int)), (6, I q4_0), (7, I v4_0)], [(1, ⟨v4_1.map I, 1, false⟩)], 2, 2⟩)
  | .out => (.normal, ⟨0, [], [], 0, 0⟩)
def iv_isort4_4 (l : List Int) (q4_0 : Int) : LR_isort4_4 → Prop
  | .x0 v4_0 v4_1 => (0 ≤ v4_0 ∧ v4_0 < ((l.length : Nat) : Int) ∧ l.length ≤ 12) ∧ (v4_1.length = l.length)
  | .x1 v4_0 v4_1 => (0 ≤ v4_0 ∧ v4_0 < ((l.length : Nat) : Int) ∧ l.length ≤ 12) ∧ (v4_1.length = l.length)
  | .out => True
def isort4_4_f_o1 (v4_0 : Int) (v4_1 : List Int) : List Ora := [.dec true, .op (some 22) ⟨.lref 1 ((v4_0).toNat) 1 0, [], [], 2⟩, .op (some 23) ⟨I (v4_1.getD ((v4_0).toNat) default), [], [1], 2⟩, .op (some 27) ⟨.lref 1 ((w64 (v4_0 - 1)).toNat) 1 0, [], [], 2⟩, .op (some 28) ⟨I (v4_1.getD ((w64 (v4_0 - 1)).toNat) default), [], [1], 2⟩, .pure (B (cmp_Less (v4_1.getD ((v4_0).toNat) default) (v4_1.getD ((w64 (v4_0 - 1)).toNat) default)))]
theorem lp_isort4_4 (l : List Int) (q4_0 : Int) : ∀ (rest4 : Nat) (v4_0 : Int) (v4_1 : List Int) (hf4 : isort4_4 rest4 v4_0 v4_1 ≠ .out) (hj : 0 ≤ v4_0 ∧ v4_0 < ((l.length : Nat) : Int) ∧ l.length ≤ 12) (hl4_v4_1 : v4_1.length = l.length), (lim cfg).loop 114 lp114_4 ⟨49, [(0, .lsl 1 0 l.length 1 (some 4)), (1, I 0), (2, I ((l.length : Nat) : Int)), (6, I q4_0), (7, I v4_0)], [(1, ⟨v4_1.map I, 1, false⟩)], 2, 2⟩ = some (lr_isort4_4 l q4_0 (isort4_4 rest4 v4_0 v4_1)) := by
  intro rest4
  induction rest4 with
  | zero =>
    intro v4_0 v4_1 hf4 hj hl4_v4_1
    exact absurd rfl hf4
  | succ rest4 ih =>
    intro v4_0 v4_1 hf4 hj hl4_v4_1
    unfold isort4_4 at hf4 ⊢
    revert hf4
    cases h8 : decide (v4_0 > 0) with
    | true =>
      have g8 := of_decide_eq_true h8
      have p1 := (idx_row (C := cfg) (nxt := 2) (t := 32) (ty := ty32) (te := ty3) (e := 3) (o := 1) (len := l.length) (sz := 1) (cap := (some 4)) (i := v4_0) (by kernel_rfl) rfl (by kernel_rfl) rfl (by first | assumption | omega | (simp only [z8] at * <;> omega) | (simp only [GS.some_l, List.length_set, List.length_append, List.length_cons, List.length_nil] at * <;> first | with_reducible assumption | omega) | (simp only [GS.some_l, List.length_set, List.length_append, List.length_cons, List.length_nil, z8] at * <;> first | with_reducible assumption | omega) | (simp at * <;> omega)) (by first | assumption | omega | (simp only [z8] at * <;> omega) | (simp only [GS.some_l, List.length_set, List.length_append, List.length_cons, List.length_nil] at * <;> first | with_reducible assumption | omega) | (simp only [GS.some_l, List.length_set, List.length_append, List.length_cons, List.length_nil, z8] at * <;> first | with_reducible assumption | omega) | (simp at * <;> omega)))
      have p2 := (load_row (C := cfg) (objs := [(1, ⟨v4_1.map I, 1, false⟩)]) (nxt := 2) (t := 3) (ty := ty3) (o := 1) (n := (v4_0).toNat) (sz := 1) (sub := 0) (ob := ⟨v4_1.map I, 1, false⟩) (e := I (v4_1.getD ((v4_0).toNat) default)) (d := I (v4_1.getD ((v4_0).toNat) default)) (by kernel_rfl) (by kernel_rfl) rfl (row_get (f := I) (by first | assumption | omega | (simp only [z8] at * <;> omega) | (simp only [GS.some_l, List.length_set, List.length_append, List.length_cons, List.length_nil] at * <;> first | with_reducible assumption | omega) | (simp only [GS.some_l, List.length_set, List.length_append, List.length_cons, List.length_nil, z8] at * <;> first | with_reducible assumption | omega) | (simp at * <;> omega))) (by kernel_rfl))
      have p3 := (idx_row (C := cfg) (nxt := 2) (t := 32) (ty := ty32) (te := ty3) (e := 3) (o := 1) (len := l.length) (sz := 1) (cap := (some 4)) (i := w64 (v4_0 - 1)) (by kernel_rfl) rfl (by kernel_rfl) rfl (by first | assumption | omega | (simp only [z8] at * <;> omega) | (simp only [GS.some_l, List.length_set, List.length_append, List.length_cons, List.length_nil] at * <;> first | with_reducible assumption | omega) | (simp only [GS.some_l, List.length_set, List.length_append, List.length_cons, List.length_nil, z8] at * <;> first | with_reducible assumption | omega) | (simp at * <;> omega)) (by first | assumption | omega | (simp only [z8] at * <;> omega) | (simp only [GS.some_l, List.length_set, List.length_append, List.length_cons, List.length_nil] at * <;> first | with_reducible assumption | omega) | (simp only [GS.some_l, List.length_set, List.length_append, List.length_cons, List.length_nil, z8] at * <;> first | with_reducible assumption | omega) | (simp at * <;> omega)))
      have p4 := (load_row (C := cfg) (objs := [(1, ⟨v4_1.map I, 1, false⟩)]) (nxt := 2) (t := 3) (ty := ty3) (o := 1) (n := (w64 (v4_0 - 1)).toNat) (sz := 1) (sub := 0) (ob := ⟨v4_1.map I, 1, false⟩) (e := I (v4_1.getD ((w64 (v4_0 - 1)).toNat) default)) (d := I (v4_1.getD ((w64 (v4_0 - 1)).toNat) default)) (by kernel_rfl) (by kernel_rfl) rfl (row_get (f := I) (by first | assumption | omega | (simp only [z8] at * <;> omega) | (simp only [GS.some_l, List.length_set, List.length_append, List.length_cons, List.length_nil] at * <;> first | with_reducible assumption | omega) | (simp only [GS.some_l, List.length_set, List.length_append, List.length_cons, List.length_nil, z8] at * <;> first | with_reducible assumption | omega) | (simp at * <;> omega))) (by kernel_rfl))
      have p5 := (T_cmp_Less (v4_1.getD ((v4_0).toNat) default) (v4_1.getD ((w64 (v4_0 - 1)).toNat) default))
      cases h9 : (cmp_Less (v4_1.getD ((v4_0).toNat) default) (v4_1.getD ((w64 (v4_0 - 1)).toNat) default)) with
      | true =>
        intro hf4
        exact po_turn' (ks := [0, 1, 2, 6, 7]) (st' := (sd22 l q4_0 v4_0 v4_1)) ((isort4_4_f_o1 v4_0 v4_1) ++ [.dec true, .op (some 41) ⟨.lref 1 ((w64 (v4_0 - 1)).toNat) 1 0, [], [], 2⟩, .op (some 42) ⟨I (v4_1.getD ((w64 (v4_0 - 1)).toNat) default), [], [1], 2⟩, .op (some 45) ⟨.lref 1 ((v4_0).toNat) 1 0, [], [], 2⟩, .op (some 46) ⟨I (v4_1.getD ((v4_0).toNat) default), [], [1], 2⟩, .op (some 47) ⟨.lref 1 ((v4_0).toNat) 1 0, [], [], 2⟩, .stS 1 ⟨.tup [], [(1, some ⟨(v4_1.set ((v4_0).toNat) (v4_1.getD ((w64 (v4_0 - 1)).toNat) default)).map I, 1, false⟩)], [1], 2⟩, .op (some 48) ⟨.lref 1 ((w64 (v4_0 - 1)).toNat) 1 0, [], [], 2⟩, .stS 1 ⟨.tup [], [(1, some ⟨((v4_1.set ((v4_0).toNat) (v4_1.getD ((w64 (v4_0 - 1)).toNat) default)).set ((w64 (v4_0 - 1)).toNat) (v4_1.getD ((v4_0).toNat) default)).map I, 1, false⟩)], [1], 2⟩]) (And.intro (store_row (C := cfg) (objs := [(1, ⟨(v4_1.set ((v4_0).toNat) (v4_1.getD ((w64 (v4_0 - 1)).toNat) default)).map I, 1, false⟩)]) (nxt := 2) (t := 3) (ty := ty3) (o := 1) (n := (w64 (v4_0 - 1)).toNat) (sz := 1) (sub := 0) (els := (v4_1.set ((v4_0).toNat) (v4_1.getD ((w64 (v4_0 - 1)).toNat) default)).map I) (els' := ((v4_1.set ((v4_0).toNat) (v4_1.getD ((w64 (v4_0 - 1)).toNat) default)).set ((w64 (v4_0 - 1)).toNat) (v4_1.getD ((v4_0).toNat) default)).map I) (e := I ((v4_1.set ((v4_0).toNat) (v4_1.getD ((w64 (v4_0 - 1)).toNat) default)).getD ((w64 (v4_0 - 1)).toNat) default)) (e' := I (v4_1.getD ((v4_0).toNat) default)) (v := I (v4_1.getD ((v4_0).toNat) default)) (by kernel_rfl) (by kernel_rfl) (row_get (f := I) (by first | assumption | omega | (simp only [z8] at * <;> omega) | (simp only [GS.some_l, List.length_set, List.length_append, List.length_cons, List.length_nil] at * <;> first | with_reducible assumption | omega) | (simp only [GS.some_l, List.length_set, List.length_append, List.length_cons, List.length_nil, z8] at * <;> first | with_reducible assumption | omega) | (simp at * <;> omega))) rfl (by kernel_rfl) rfl (by kernel_rfl) (row_set (f := I))) (And.intro (idx_row (C := cfg) (nxt := 2) (t := 32) (ty := ty32) (te := ty3) (e := 3) (o := 1) (len := l.length) (sz := 1) (cap := (some 4)) (i := w64 (v4_0 - 1)) (by kernel_rfl) rfl (by kernel_rfl) rfl (by first | assumption | omega | (simp only [z8] at * <;> omega) | (simp only [GS.some_l, List.length_set, List.length_append, List.length_cons, List.length_nil] at * <;> first | with_reducible assumption | omega) | (simp only [GS.some_l, List.length_set, List.length_append, List.length_cons, List.length_nil, z8] at * <;> first | with_reducible assumption | omega) | (simp at * <;> omega)) (by first | assumption | omega | (simp only [z8] at * <;> omega) | (simp only [GS.some_l, List.length_set, List.length_append, List.length_cons, List.length_nil] at * <;> first | with_reducible assumption | omega) | (simp only [GS.some_l, List.length_set, List.length_append, List.length_cons, List.length_nil, z8] at * <;> first | with_reducible assumption | omega) | (simp at * <;> omega))) (And.intro (store_row (C := cfg) (objs := [(1, ⟨v4_1.map I, 1, false⟩)]) (nxt := 2) (t := 3) (ty := ty3) (o := 1) (n := (v4_0).toNat) (sz := 1) (sub := 0) (els := v4_1.map I) (els' := (v4_1.set ((v4_0).toNat) (v4_1.getD ((w64 (v4_0 - 1)).toNat) default)).map I) (e := I (v4_1.getD ((v4_0).toNat) default)) (e' := I (v4_1.getD ((w64 (v4_0 - 1)).toNat) default)) (v := I (v4_1.getD ((w64 (v4_0 - 1)).toNat) default)) (by kernel_rfl) (by kernel_rfl) (row_get (f := I) (by first | assumption | omega | (simp only [z8] at * <;> omega) | (simp only [GS.some_l, List.length_set, List.length_append, List.length_cons, List.length_nil] at * <;> first | with_reducible assumption | omega) | (simp only [GS.some_l, List.length_set, List.length_append, List.length_cons, List.length_nil, z8] at * <;> first | with_reducible assumption | omega) | (simp at * <;> omega))) rfl (by kernel_rfl) rfl (by kernel_rfl) (row_set (f := I))) (And.intro (idx_row (C := cfg) (nxt := 2) (t := 32) (ty := ty32) (te := ty3) (e := 3) (o := 1) (len := l.length) (sz := 1) (cap := (some 4)) (i := v4_0) (by kernel_rfl) rfl (by kernel_rfl) rfl (by first | assumption | omega | (simp only [z8] at * <;> omega) | (simp only [GS.some_l, List.length_set, List.length_append, List.length_cons, List.length_nil] at * <;> first | with_reducible assumption | omega) | (simp only [GS.some_l, List.length_set, List.length_append, List.length_cons, List.length_nil, z8] at * <;> first | with_reducible assumption | omega) | (simp at * <;> omega)) (by first | assumption | omega | (simp only [z8] at * <;> omega) | (simp only [GS.some_l, List.length_set, List.length_append, List.length_cons, List.length_nil] at * <;> first | with_reducible assumption | omega) | (simp only [GS.some_l, List.length_set, List.length_append, List.length_cons, List.length_nil, z8] at * <;> first | with_reducible assumption | omega) | (simp at * <;> omega))) (And.intro (load_row (C := cfg) (objs := [(1, ⟨v4_1.map I, 1, false⟩)]) (nxt := 2) (t := 3) (ty := ty3) (o := 1) (n := (v4_0).toNat) (sz := 1) (sub := 0) (ob := ⟨v4_1.map I, 1, false⟩) (e := I (v4_1.getD ((v4_0).toNat) default)) (d := I (v4_1.getD ((v4_0).toNat) default)) (by kernel_rfl) (by kernel_rfl) rfl (row_get (f := I) (by first | assumption | omega | (simp only [z8] at * <;> omega) | (simp only [GS.some_l, List.length_set, List.length_append, List.length_cons, List.length_nil] at * <;> first | with_reducible assumption | omega) | (simp only [GS.some_l, List.length_set, List.length_append, List.length_cons, List.length_nil, z8] at * <;> first | with_reducible assumption | omega) | (simp at * <;> omega))) (by kernel_rfl)) (And.intro (idx_row (C := cfg) (nxt := 2) (t := 32) (ty := ty32) (te := ty3) (e := 3) (o := 1) (len := l.length) (sz := 1) (cap := (some 4)) (i := v4_0) (by kernel_rfl) rfl (by kernel_rfl) rfl (by first | assumption | omega | (simp only [z8] at * <;> omega) | (simp only [GS.some_l, List.length_set, List.length_append, List.length_cons, List.length_nil] at * <;> first | with_reducible assumption | omega) | (simp only [GS.some_l, List.length_set, List.length_append, List.length_cons, List.length_nil, z8] at * <;> first | with_reducible assumption | omega) | (simp at * <;> omega)) (by first | assumption | omega | (simp only [z8] at * <;> omega) | (simp only [GS.some_l, List.length_set, List.length_append, List.length_cons, List.length_nil] at * <;> first | with_reducible assumption | omega) | (simp only [GS.some_l, List.length_set, List.length_append, List.length_cons, List.length_nil, z8] at * <;> first | with_reducible assumption | omega) | (simp at * <;> omega))) (And.intro (load_row (C := cfg) (objs := [(1, ⟨v4_1.map I, 1, false⟩)]) (nxt := 2) (t := 3) (ty := ty3) (o := 1) (n := (w64 (v4_0 - 1)).toNat) (sz := 1) (sub := 0) (ob := ⟨v4_1.map I, 1, false⟩) (e := I (v4_1.getD ((w64 (v4_0 - 1)).toNat) default)) (d := I (v4_1.getD ((w64 (v4_0 - 1)).toNat) default)) (by kernel_rfl) (by kernel_rfl) rfl (row_get (f := I) (by first | assumption | omega | (simp only [z8] at * <;> omega) | (simp only [GS.some_l, List.length_set, List.length_append, List.length_cons, List.length_nil] at * <;> first | with_reducible assumption | omega) | (simp only [GS.some_l, List.length_set, List.length_append, List.length_cons, List.length_nil, z8] at * <;> first | with_reducible assumption | omega) | (simp at * <;> omega))) (by kernel_rfl)) (And.intro (idx_row (C := cfg) (nxt := 2) (t := 32) (ty := ty32) (te := ty3) (e := 3) (o := 1) (len := l.length) (sz := 1) (cap := (some 4)) (i := w64 (v4_0 - 1)) (by kernel_rfl) rfl (by kernel_rfl) rfl (by first | assumption | omega | (simp only [z8] at * <;> omega) | (simp only [GS.some_l, List.length_set, List.length_append, List.length_cons, List.length_nil] at * <;> first | with_reducible assumption | omega) | (simp only [GS.some_l, List.length_set, List.length_append, List.length_cons, List.length_nil, z8] at * <;> first | with_reducible assumption | omega) | (simp at * <;> omega)) (by first | assumption | omega | (simp only [z8] at * <;> omega) | (simp only [GS.some_l, List.length_set, List.length_append, List.length_cons, List.length_nil] at * <;> first | with_reducible assumption | omega) | (simp only [GS.some_l, List.length_set, List.length_append, List.length_cons, List.length_nil, z8] at * <;> first | with_reducible assumption | omega) | (simp at * <;> omega))) (And.intro h9 (And.intro p5 (And.intro p4 (And.intro p3 (And.intro p2 (And.intro p1 (And.intro h8 trivial))))))))))))))) (by kernel_rfl) (by (simp only [sd22, go_sem, Nat.reduceAdd, Nat.reduceEqDiff, Nat.reduceLT, Nat.reduceLeDiff, bI2, zN.idsL, zN.renL, zN.snapAll, zi.idsL, zi.renL, zi.snapAll]) <;> rfl) (ih (w64 (v4_0 - 1)) ((v4_1.set ((v4_0).toNat) (v4_1.getD ((w64 (v4_0 - 1)).toNat) default)).set ((w64 (v4_0 - 1)).toNat) (v4_1.getD ((v4_0).toNat) default)) hf4 (by first | assumption | omega | (simp only [z8] at * <;> omega) | (simp only [GS.some_l, List.length_set, List.length_append, List.length_cons, List.length_nil] at * <;> first | with_reducible assumption | omega) | (simp only [GS.some_l, List.length_set, List.length_append, List.length_cons, List.length_nil, z8] at * <;> first | with_reducible assumption | omega) | (simp at * <;> omega)) (by first | assumption | omega | (simp only [z8] at * <;> omega) | (simp only [GS.some_l, List.length_set, List.length_append, List.length_cons, List.length_nil] at * <;> first | with_reducible assumption | omega) | (simp only [GS.some_l, List.length_set, List.length_append, List.length_cons, List.length_nil, z8] at * <;> first | with_reducible assumption | omega) | (simp at * <;> omega))) (by kernel_rfl)
      | false =>
        intro hf4
        exact zH ((isort4_4_f_o1 v4_0 v4_1) ++ [.dec false]) (And.intro h9 (And.intro p5 (And.intro p4 (And.intro p3 (And.intro p2 (And.intro p1 (And.intro h8 trivial))))))) (by kernel_rfl)
    | false =>
      have g8 := of_decide_eq_false h8
      intro hf4
      exact zH [.dec false] (And.intro h8 trivial) (by kernel_rfl)
theorem ivt_isort4_4 (l : List Int) (q4_0 : Int) : ∀ (rest4 : Nat) (v4_0 : Int) (v4_1 : List Int) (hf4 : isort4_4 rest4 v4_0 v4_1 ≠ .out) (hj : 0 ≤ v4_0 ∧ v4_0 < ((l.length : Nat) : Int) ∧ l.length ≤ 12) (hl4_v4_1 : v4_1.length = l.length), iv_isort4_4 l q4_0 (isort4_4 rest4 v4_0 v4_1) := by
  intro rest4
  induction rest4 with
  | zero =>
    intro v4_0 v4_1 hf4 hj hl4_v4_1
    exact absurd rfl hf4
  | succ rest4 ih =>
    intro v4_0 v4_1 hf4 hj hl4_v4_1
    unfold isort4_4 at hf4 ⊢
    revert hf4
    cases h8 : decide (v4_0 > 0) with
    | true =>
      have g8 := of_decide_eq_true h8
      cases h9 : (cmp_Less (v4_1.getD ((v4_0).toNat) default) (v4_1.getD ((w64 (v4_0 - 1)).toNat) default)) with
      | true =>
        intro hf4
        exact ih (w64 (v4_0 - 1)) ((v4_1.set ((v4_0).toNat) (v4_1.getD ((w64 (v4_0 - 1)).toNat) default)).set ((w64 (v4_0 - 1)).toNat) (v4_1.getD ((v4_0).toNat) default)) hf4 (by first | assumption | omega | (simp only [z8] at * <;> omega) | (simp only [GS.some_l, List.length_set, List.length_append, List.length_cons, List.length_nil] at * <;> first | with_reducible assumption | omega) | (simp only [GS.some_l, List.length_set, List.length_append, List.length_cons, List.length_nil, z8] at * <;> first | with_reducible assumption | omega) | (simp at * <;> omega)) (by first | assumption | omega | (simp only [z8] at * <;> omega) | (simp only [GS.some_l, List.length_set, List.length_append, List.length_cons, List.length_nil] at * <;> first | with_reducible assumption | omega) | (simp only [GS.some_l, List.length_set, List.length_append, List.length_cons, List.length_nil, z8] at * <;> first | with_reducible assumption | omega) | (simp at * <;> omega))
      | false =>
        intro hf4
        exact ⟨hj, hl4_v4_1⟩
    | false =>
      have g8 := of_decide_eq_false h8
      intro hf4
      exact ⟨hj, hl4_v4_1⟩

theorem isort4_ne : ∀ (n : Nat) (j : Int) (v : List Int), 0 ≤ j → j < n → j ≤ 12 → isort4_4 n j v ≠ .out
  | 0, j, v, h0, h1, _ => by omega
  | n + 1, j, v, h0, h1, h5 => by
    unfold isort4_4
    cases h2 : decide (j > 0) with
    | false => simp
    | true =>
      have := of_decide_eq_true h2
      cases h3 : cmp_Less (v.getD j.toNat default) (v.getD (w64 (j - 1)).toNat default) with
      | false => simp
      | true =>
        simp only [cond_true]
        exact isort4_ne n _ _ (by rw [w64_eq (by omega) (by omega)]; omega) (by rw [w64_eq (by omega) (by omega)]; omega) (by rw [w64_eq (by omega) (by omega)]; omega)

noncomputable def lp114_1 : Code := subC [1, 0, 0] (bodyC Tryz.f114)

def sd29 (l : List Int) (i1 : Nat) (v4_0 : Int) (v4_1 : List Int) : St := ⟨49, [(6, I ((i1 + 1 : Nat) : Int)), (14, I ((i1 + 1 : Nat) : Int)), (13, I ((i1 : Nat) : Int)), (30, B false), (29, B false), (28, I (v4_1.getD ((w64 (v4_0 - 1)).toNat) default)), (27, .lref 1 ((w64 (v4_0 - 1)).toNat) 1 0), (26, I (w64 (v4_0 - 1))), (25, I v4_0), (24, .lsl 1 0 l.length 1 (some 4)), (23, I (v4_1.getD ((v4_0).toNat) default)), (22, .lref 1 ((v4_0).toNat) 1 0), (21, I v4_0), (20, .lsl 1 0 l.length 1 (some 4)), (19, B true), (18, B true), (17, I 0), (16, I v4_0), (0, .lsl 1 0 l.length 1 (some 4)), (1, I 0), (2, I ((l.length : Nat) : Int)), (6, I ((i1 : Nat) : Int)), (7, I v4_0)], [(1, ⟨v4_1.map I, 1, false⟩)], 2, 2⟩

def sd28 (l : List Int) (i1 : Nat) (v1_0 : List Int) : St := ⟨49, [(0, .lsl 1 0 l.length 1 (some 4)), (1, I 0), (2, I ((l.length : Nat) : Int)), (6, I ((i1 : Nat) : Int)), (7, I ((i1 : Nat) : Int))], [(1, ⟨v1_0.map I, 1, false⟩)], 2, 2⟩

def sd25 (l : List Int) (i1 : Nat) (v4_0 : Int) (v4_1 : List Int) : St := ⟨49, [(30, B false), (29, B false), (28, I (v4_1.getD ((w64 (v4_0 - 1)).toNat) default)), (27, .lref 1 ((w64 (v4_0 - 1)).toNat) 1 0), (26, I (w64 (v4_0 - 1))), (25, I v4_0), (24, .lsl 1 0 l.length 1 (some 4)), (23, I (v4_1.getD ((v4_0).toNat) default)), (22, .lref 1 ((v4_0).toNat) 1 0), (21, I v4_0), (20, .lsl 1 0 l.length 1 (some 4)), (19, B true), (18, B true), (17, I 0), (16, I v4_0), (0, .lsl 1 0 l.length 1 (some 4)), (1, I 0), (2, I ((l.length : Nat) : Int)), (6, I ((i1 : Nat) : Int)), (7, I v4_0)], [(1, ⟨v4_1.map I, 1, false⟩)], 2, 2⟩

def sd27 (l : List Int) (i1 : Nat) (v1_0 : List Int) : St := ⟨49, [(7, I ((i1 : Nat) : Int)), (15, I ((i1 : Nat) : Int)), (12, B true), (11, I ((l.length : Nat) : Int)), (10, I ((i1 : Nat) : Int)), (0, .lsl 1 0 l.length 1 (some 4)), (1, I 0), (2, I ((l.length : Nat) : Int)), (6, I ((i1 : Nat) : Int))], [(1, ⟨v1_0.map I, 1, false⟩)], 2, 2⟩

def sd30 (l : List Int) (i1 : Nat) (v4_0 : Int) (v4_1 : List Int) : St := ⟨49, [(6, I ((i1 + 1 : Nat) : Int)), (14, I ((i1 + 1 : Nat) : Int)), (13, I ((i1 : Nat) : Int)), (30, B false), (29, .tup []), (28, .tup []), (27, .tup []), (26, .tup []), (25, .tup []), (24, .tup []), (23, .tup []), (22, .tup []), (21, .tup []), (20, .tup []), (19, B false), (18, B false), (17, I 0), (16, I v4_0), (0, .lsl 1 0 l.length 1 (some 4)), (1, I 0), (2, I ((l.length : Nat) : Int)), (6, I ((i1 : Nat) : Int)), (7, I v4_0)], [(1, ⟨v4_1.map I, 1, false⟩)], 2, 2⟩

def sd26 (l : List Int) (i1 : Nat) (v4_0 : Int) (v4_1 : List Int) : St := ⟨49, [(30, B false), (29, .tup []), (28, .tup []), (27, .tup []), (26, .tup []), (25, .tup []), (24, .tup []), (23, .tup []), (22, .tup []), (21, .tup []), (20, .tup []), (19, B false), (18, B false), (17, I 0), (16, I v4_0), (0, .lsl 1 0 l.length 1 (some 4)), (1, I 0), (2, I ((l.length : Nat) : Int)), (6, I ((i1 : Nat) : Int)), (7, I v4_0)], [(1, ⟨v4_1.map I, 1, false⟩)], 2, 2⟩

inductive LR_isort4_1 where
  | x0 (i1 : Nat) (v1_0 : List Int)
instance : Inhabited LR_isort4_1 := ⟨.x0 default default⟩
def isort4_1 : Nat → Nat → (List Int) → LR_isort4_1
  | 0, i1, v1_0 => .x0 i1 v1_0
  | rest1 + 1, i1, v1_0 =>
    match isort4_4 (i1 + 1) ((i1 : Nat) : Int) v1_0 with
    | .x0 v4_0 v4_1 =>
      isort4_1 rest1 (i1 + 1) v4_1
    | .x1 v4_0 v4_1 =>
      isort4_1 rest1 (i1 + 1) v4_1
    | .out =>
      default
def lr_isort4_1 (l : List Int) : LR_isort4_1 → Exit × St
  | .x0 i1 v1_0 => ((.exit 0), ⟨49, [(12, B false), (11, I ((l.length : Nat) : Int)), (10, I ((i1 : Nat) : Int)), (0, .lsl 1 0 l.length 1 (some 4)), (1, I 0), (2, I ((l.length : Nat) : Int)), (6, I ((i1 : Nat) : Int))], [(1, ⟨v1_0.map I, 1, false⟩)], 2, 2⟩)
def iv_isort4_1 (l : List Int) : LR_isort4_1 → Prop
  | .x0 i1 v1_0 => (v1_0.length = l.length)
theorem lp_isort4_1 (l : List Int) : ∀ (rest1 : Nat) (i1 : Nat) (v1_0 : List Int) (hk1 : (((l.length : Nat) : Int) - ((i1 : Nat) : Int)).toNat = rest1) (hN1 : ((l.length : Nat) : Int) ≤ 9223372036854775807) (hn : l.length ≤ 12) (hl1_v1_0 : v1_0.length = l.length), (lim cfg).loop 114 lp114_1 ⟨49, [(0, .lsl 1 0 l.length 1 (some 4)), (1, I 0), (2, I ((l.length : Nat) : Int)), (6, I ((i1 : Nat) : Int))], [(1, ⟨v1_0.map I, 1, false⟩)], 2, 2⟩ = some (lr_isort4_1 l (isort4_1 rest1 i1 v1_0)) := by
  intro rest1
  induction rest1 with
  | zero =>
    intro i1 v1_0 hk1 hN1 hn hl1_v1_0
    unfold isort4_1
    exact zH [.dec false] (And.intro (ct_no hk1) trivial) (by kernel_rfl)
  | succ rest1 ih =>
    intro i1 v1_0 hk1 hN1 hn hl1_v1_0
    have hlt1 := of_decide_eq_true (ct_at hk1)
    unfold isort4_1
    cases h10 : isort4_4 (i1 + 1) ((i1 : Nat) : Int) v1_0 with
    | x0 v4_0 v4_1 =>
      try dsimp only
      have hv_h10 := ivt_isort4_4 l ((i1 : Nat) : Int) (i1 + 1) ((i1 : Nat) : Int) v1_0 (isort4_ne (i1 + 1) _ _ (by omega) (by omega) (by omega)) (by first | assumption | omega | (simp only [z8] at * <;> omega) | (simp only [GS.some_l, List.length_set, List.length_append, List.length_cons, List.length_nil] at * <;> first | with_reducible assumption | omega) | (simp only [GS.some_l, List.length_set, List.length_append, List.length_cons, List.length_nil, z8] at * <;> first | with_reducible assumption | omega) | (simp at * <;> omega)) (by first | assumption | omega | (simp only [z8] at * <;> omega) | (simp only [GS.some_l, List.length_set, List.length_append, List.length_cons, List.length_nil] at * <;> first | with_reducible assumption | omega) | (simp only [GS.some_l, List.length_set, List.length_append, List.length_cons, List.length_nil, z8] at * <;> first | with_reducible assumption | omega) | (simp at * <;> omega))
      rw [h10] at hv_h10
      obtain ⟨hv_h10_0, hv_h10_1⟩ := hv_h10
      try dsimp only [iv_isort4_4] at hv_h10_0
      try dsimp only [iv_isort4_4] at hv_h10_1
      exact po_turn' (ks := [0, 1, 2, 6]) (st' := (sd29 l i1 v4_0 v4_1)) [.dec true, .gloop (sd28 l i1 v1_0) (.exit 2) (sd25 l i1 v4_0 v4_1), .rw 14 (I ((i1 + 1 : Nat) : Int))] (And.intro (inc_rw (i := i1) (by first | assumption | omega | (simp only [z8] at * <;> omega) | (simp only [GS.some_l, List.length_set, List.length_append, List.length_cons, List.length_nil] at * <;> first | with_reducible assumption | omega) | (simp only [GS.some_l, List.length_set, List.length_append, List.length_cons, List.length_nil, z8] at * <;> first | with_reducible assumption | omega) | (simp at * <;> omega))) (And.intro (po_lr (q := lr_isort4_4 l ((i1 : Nat) : Int)) (lp_isort4_4 l ((i1 : Nat) : Int) (i1 + 1) ((i1 : Nat) : Int) v1_0 (isort4_ne (i1 + 1) _ _ (by omega) (by omega) (by omega)) (by first | assumption | omega | (simp only [z8] at * <;> omega) | (simp only [GS.some_l, List.length_set, List.length_append, List.length_cons, List.length_nil] at * <;> first | with_reducible assumption | omega) | (simp only [GS.some_l, List.length_set, List.length_append, List.length_cons, List.length_nil, z8] at * <;> first | with_reducible assumption | omega) | (simp at * <;> omega)) (by first | assumption | omega | (simp only [z8] at * <;> omega) | (simp only [GS.some_l, List.length_set, List.length_append, List.length_cons, List.length_nil] at * <;> first | with_reducible assumption | omega) | (simp only [GS.some_l, List.length_set, List.length_append, List.length_cons, List.length_nil, z8] at * <;> first | with_reducible assumption | omega) | (simp at * <;> omega))) h10) (And.intro (gc_of (C := cfg) (f := 114) (a := lp114_4) (ks := [0, 1, 2, 6, 7]) (st := (sd27 l i1 v1_0)) (st1 := (sd28 l i1 v1_0)) (by kernel_rfl) (by (simp only [sd27, sd28, go_sem, Nat.reduceAdd, Nat.reduceEqDiff, Nat.reduceLT, Nat.reduceLeDiff, bI2, zN.idsL, zN.renL, zN.snapAll, zi.idsL, zi.renL, zi.snapAll]) <;> rfl)) (And.intro (ct_at hk1) trivial)))) (by kernel_rfl) (by (simp only [sd29, go_sem, Nat.reduceAdd, Nat.reduceEqDiff, Nat.reduceLT, Nat.reduceLeDiff, bI2, zN.idsL, zN.renL, zN.snapAll, zi.idsL, zi.renL, zi.snapAll]) <;> rfl) (ih (i1 + 1) v4_1 (by omega) hN1 (by first | assumption | omega | (simp only [z8] at * <;> omega) | (simp only [GS.some_l, List.length_set, List.length_append, List.length_cons, List.length_nil] at * <;> first | with_reducible assumption | omega) | (simp only [GS.some_l, List.length_set, List.length_append, List.length_cons, List.length_nil, z8] at * <;> first | with_reducible assumption | omega) | (simp at * <;> omega)) (by first | assumption | omega | (simp only [z8] at * <;> omega) | (simp only [GS.some_l, List.length_set, List.length_append, List.length_cons, List.length_nil] at * <;> first | with_reducible assumption | omega) | (simp only [GS.some_l, List.length_set, List.length_append, List.length_cons, List.length_nil, z8] at * <;> first | with_reducible assumption | omega) | (simp at * <;> omega))) (by kernel_rfl)
    | x1 v4_0 v4_1 =>
      try dsimp only
      have hv_h10 := ivt_isort4_4 l ((i1 : Nat) : Int) (i1 + 1) ((i1 : Nat) : Int) v1_0 (isort4_ne (i1 + 1) _ _ (by omega) (by omega) (by omega)) (by first | assumption | omega | (simp only [z8] at * <;> omega) | (simp only [GS.some_l, List.length_set, List.length_append, List.length_cons, List.length_nil] at * <;> first | with_reducible assumption | omega) | (simp only [GS.some_l, List.length_set, List.length_append, List.length_cons, List.length_nil, z8] at * <;> first | with_reducible assumption | omega) | (simp at * <;> omega)) (by first | assumption | omega | (simp only [z8] at * <;> omega) | (simp only [GS.some_l, List.length_set, List.length_append, List.length_cons, List.length_nil] at * <;> first | with_reducible assumption | omega) | (simp only [GS.some_l, List.length_set, List.length_append, List.length_cons, List.length_nil, z8] at * <;> first | with_reducible assumption | omega) | (simp at * <;> omega))
      rw [h10] at hv_h10
      obtain ⟨hv_h10_0, hv_h10_1⟩ := hv_h10
      try dsimp only [iv_isort4_4] at hv_h10_0
      try dsimp only [iv_isort4_4] at hv_h10_1
      exact po_turn' (ks := [0, 1, 2, 6]) (st' := (sd30 l i1 v4_0 v4_1)) [.dec true, .gloop (sd28 l i1 v1_0) (.exit 2) (sd26 l i1 v4_0 v4_1), .rw 14 (I ((i1 + 1 : Nat) : Int))] (And.intro (inc_rw (i := i1) (by first | assumption | omega | (simp only [z8] at * <;> omega) | (simp only [GS.some_l, List.length_set, List.length_append, List.length_cons, List.length_nil] at * <;> first | with_reducible assumption | omega) | (simp only [GS.some_l, List.length_set, List.length_append, List.length_cons, List.length_nil, z8] at * <;> first | with_reducible assumption | omega) | (simp at * <;> omega))) (And.intro (po_lr (q := lr_isort4_4 l ((i1 : Nat) : Int)) (lp_isort4_4 l ((i1 : Nat) : Int) (i1 + 1) ((i1 : Nat) : Int) v1_0 (isort4_ne (i1 + 1) _ _ (by omega) (by omega) (by omega)) (by first | assumption | omega | (simp only [z8] at * <;> omega) | (simp only [GS.some_l, List.length_set, List.length_append, List.length_cons, List.length_nil] at * <;> first | with_reducible assumption | omega) | (simp only [GS.some_l, List.length_set, List.length_append, List.length_cons, List.length_nil, z8] at * <;> first | with_reducible assumption | omega) | (simp at * <;> omega)) (by first | assumption | omega | (simp only [z8] at * <;> omega) | (simp only [GS.some_l, List.length_set, List.length_append, List.length_cons, List.length_nil] at * <;> first | with_reducible assumption | omega) | (simp only [GS.some_l, List.length_set, List.length_append, List.length_cons, List.length_nil, z8] at * <;> first | with_reducible assumption | omega) | (simp at * <;> omega))) h10) (And.intro (gc_of (C := cfg) (f := 114) (a := lp114_4) (ks := [0, 1, 2, 6, 7]) (st := (sd27 l i1 v1_0)) (st1 := (sd28 l i1 v1_0)) (by kernel_rfl) (by (simp only [sd27, sd28, go_sem, Nat.reduceAdd, Nat.reduceEqDiff, Nat.reduceLT, Nat.reduceLeDiff, bI2, zN.idsL, zN.renL, zN.snapAll, zi.idsL, zi.renL, zi.snapAll]) <;> rfl)) (And.intro (ct_at hk1) trivial)))) (by kernel_rfl) (by (simp only [sd30, go_sem, Nat.reduceAdd, Nat.reduceEqDiff, Nat.reduceLT, Nat.reduceLeDiff, bI2, zN.idsL, zN.renL, zN.snapAll, zi.idsL, zi.renL, zi.snapAll]) <;> rfl) (ih (i1 + 1) v4_1 (by omega) hN1 (by first | assumption | omega | (simp only [z8] at * <;> omega) | (simp only [GS.some_l, List.length_set, List.length_append, List.length_cons, List.length_nil] at * <;> first | with_reducible assumption | omega) | (simp only [GS.some_l, List.length_set, List.length_append, List.length_cons, List.length_nil, z8] at * <;> first | with_reducible assumption | omega) | (simp at * <;> omega)) (by first | assumption | omega | (simp only [z8] at * <;> omega) | (simp only [GS.some_l, List.length_set, List.length_append, List.length_cons, List.length_nil] at * <;> first | with_reducible assumption | omega) | (simp only [GS.some_l, List.length_set, List.length_append, List.length_cons, List.length_nil, z8] at * <;> first | with_reducible assumption | omega) | (simp at * <;> omega))) (by kernel_rfl)
    | out =>
      exact absurd h10 (isort4_ne (i1 + 1) _ _ (by omega) (by omega) (by omega))
theorem ivt_isort4_1 (l : List Int) : ∀ (rest1 : Nat) (i1 : Nat) (v1_0 : List Int) (hk1 : (((l.length : Nat) : Int) - ((i1 : Nat) : Int)).toNat = rest1) (hN1 : ((l.length : Nat) : Int) ≤ 9223372036854775807) (hn : l.length ≤ 12) (hl1_v1_0 : v1_0.length = l.length), iv_isort4_1 l (isort4_1 rest1 i1 v1_0) := by
  intro rest1
  induction rest1 with
  | zero =>
    intro i1 v1_0 hk1 hN1 hn hl1_v1_0
    unfold isort4_1
    exact hl1_v1_0
  | succ rest1 ih =>
    intro i1 v1_0 hk1 hN1 hn hl1_v1_0
    have hlt1 := of_decide_eq_true (ct_at hk1)
    unfold isort4_1
    cases h10 : isort4_4 (i1 + 1) ((i1 : Nat) : Int) v1_0 with
    | x0 v4_0 v4_1 =>
      try dsimp only
      have hv_h10 := ivt_isort4_4 l ((i1 : Nat) : Int) (i1 + 1) ((i1 : Nat) : Int) v1_0 (isort4_ne (i1 + 1) _ _ (by omega) (by omega) (by omega)) (by first | assumption | omega | (simp only [z8] at * <;> omega) | (simp only [GS.some_l, List.length_set, List.length_append, List.length_cons, List.length_nil] at * <;> first | with_reducible assumption | omega) | (simp only [GS.some_l, List.length_set, List.length_append, List.length_cons, List.length_nil, z8] at * <;> first | with_reducible assumption | omega) | (simp at * <;> omega)) (by first | assumption | omega | (simp only [z8] at * <;> omega) | (simp only [GS.some_l, List.length_set, List.length_append, List.length_cons, List.length_nil] at * <;> first | with_reducible assumption | omega) | (simp only [GS.some_l, List.length_set, List.length_append, List.length_cons, List.length_nil, z8] at * <;> first | with_reducible assumption | omega) | (simp at * <;> omega))
      rw [h10] at hv_h10
      obtain ⟨hv_h10_0, hv_h10_1⟩ := hv_h10
      try dsimp only [iv_isort4_4] at hv_h10_0
      try dsimp only [iv_isort4_4] at hv_h10_1
      exact ih (i1 + 1) v4_1 (by omega) hN1 (by first | assumption | omega | (simp only [z8] at * <;> omega) | (simp only [GS.some_l, List.length_set, List.length_append, List.length_cons, List.length_nil] at * <;> first | with_reducible assumption | omega) | (simp only [GS.some_l, List.length_set, List.length_append, List.length_cons, List.length_nil, z8] at * <;> first | with_reducible assumption | omega) | (simp at * <;> omega)) (by first | assumption | omega | (simp only [z8] at * <;> omega) | (simp only [GS.some_l, List.length_set, List.length_append, List.length_cons, List.length_nil] at * <;> first | with_reducible assumption | omega) | (simp only [GS.some_l, List.length_set, List.length_append, List.length_cons, List.length_nil, z8] at * <;> first | with_reducible assumption | omega) | (simp at * <;> omega))
    | x1 v4_0 v4_1 =>
      try dsimp only
      have hv_h10 := ivt_isort4_4 l ((i1 : Nat) : Int) (i1 + 1) ((i1 : Nat) : Int) v1_0 (isort4_ne (i1 + 1) _ _ (by omega) (by omega) (by omega)) (by first | assumption | omega | (simp only [z8] at * <;> omega) | (simp only [GS.some_l, List.length_set, List.length_append, List.length_cons, List.length_nil] at * <;> first | with_reducible assumption | omega) | (simp only [GS.some_l, List.length_set, List.length_append, List.length_cons, List.length_nil, z8] at * <;> first | with_reducible assumption | omega) | (simp at * <;> omega)) (by first | assumption | omega | (simp only [z8] at * <;> omega) | (simp only [GS.some_l, List.length_set, List.length_append, List.length_cons, List.length_nil] at * <;> first | with_reducible assumption | omega) | (simp only [GS.some_l, List.length_set, List.length_append, List.length_cons, List.length_nil, z8] at * <;> first | with_reducible assumption | omega) | (simp at * <;> omega))
      rw [h10] at hv_h10
      obtain ⟨hv_h10_0, hv_h10_1⟩ := hv_h10
      try dsimp only [iv_isort4_4] at hv_h10_0
      try dsimp only [iv_isort4_4] at hv_h10_1
      exact ih (i1 + 1) v4_1 (by omega) hN1 (by first | assumption | omega | (simp only [z8] at * <;> omega) | (simp only [GS.some_l, List.length_set, List.length_append, List.length_cons, List.length_nil] at * <;> first | with_reducible assumption | omega) | (simp only [GS.some_l, List.length_set, List.length_append, List.length_cons, List.length_nil, z8] at * <;> first | with_reducible assumption | omega) | (simp at * <;> omega)) (by first | assumption | omega | (simp only [z8] at * <;> omega) | (simp only [GS.some_l, List.length_set, List.length_append, List.length_cons, List.length_nil] at * <;> first | with_reducible assumption | omega) | (simp only [GS.some_l, List.length_set, List.length_append, List.length_cons, List.length_nil, z8] at * <;> first | with_reducible assumption | omega) | (simp at * <;> omega))
    | out =>
      exact absurd h10 (isort4_ne (i1 + 1) _ _ (by omega) (by omega) (by omega))

def isort4 (l : List Int) : List Int :=
  match isort4_1 (((l.length : Nat) : Int) - 1).toNat 1 l with
  | .x0 i1 v1_0 =>
    v1_0

def sd31 (l : List Int) (i1 : Nat) (v1_0 : List Int) : St := ⟨49, [(12, B false), (11, I ((l.length : Nat) : Int)), (10, I ((i1 : Nat) : Int)), (0, .lsl 1 0 l.length 1 (some 4)), (1, I 0), (2, I ((l.length : Nat) : Int)), (6, I ((i1 : Nat) : Int))], [(1, ⟨v1_0.map I, 1, false⟩)], 2, 2⟩

theorem I_isort4 (l : List Int) (hl : l.length ≤ 12) : (lim cfg).inl 114 [.lsl 1 0 l.length 1 (some 4), I 0, I ((l.length : Nat) : Int)] [(1, ⟨l.map I, 1, false⟩)] 2 = some (.tup [], [(1, ⟨(isort4 l).map I, 1, false⟩)], 2) := by
  unfold isort4
  cases h11 : isort4_1 (((l.length : Nat) : Int) - 1).toNat 1 l with
  | x0 i1 v1_0 =>
    try dsimp only
    have hv_h11 := ivt_isort4_1 l (((l.length : Nat) : Int) - 1).toNat 1 l (by omega) (by first | assumption | omega | (simp only [z8] at * <;> omega) | (simp only [GS.some_l, List.length_set, List.length_append, List.length_cons, List.length_nil] at * <;> first | with_reducible assumption | omega) | (simp only [GS.some_l, List.length_set, List.length_append, List.length_cons, List.length_nil, z8] at * <;> first | with_reducible assumption | omega) | (simp at * <;> omega)) (by first | assumption | omega | (simp only [z8] at * <;> omega) | (simp only [GS.some_l, List.length_set, List.length_append, List.length_cons, List.length_nil] at * <;> first | with_reducible assumption | omega) | (simp only [GS.some_l, List.length_set, List.length_append, List.length_cons, List.length_nil, z8] at * <;> first | with_reducible assumption | omega) | (simp at * <;> omega)) (by first | assumption | omega | (simp only [z8] at * <;> omega) | (simp only [GS.some_l, List.length_set, List.length_append, List.length_cons, List.length_nil] at * <;> first | with_reducible assumption | omega) | (simp only [GS.some_l, List.length_set, List.length_append, List.length_cons, List.length_nil, z8] at * <;> first | with_reducible assumption | omega) | (simp at * <;> omega))
    rw [h11] at hv_h11
    have hv_h11_0 := hv_h11
    try dsimp only [iv_isort4_1] at hv_h11_0
    exact po_inl [.gloop ⟨49, [(0, .lsl 1 0 l.length 1 (some 4)), (1, I 0), (2, I ((l.length : Nat) : Int)), (6, I 1)], [(1, ⟨l.map I, 1, false⟩)], 2, 2⟩ (.exit 0) (sd31 l i1 v1_0)] (And.intro (po_lr (q := lr_isort4_1 l) (lp_isort4_1 l (((l.length : Nat) : Int) - 1).toNat 1 l (by omega) (by first | assumption | omega | (simp only [z8] at * <;> omega) | (simp only [GS.some_l, List.length_set, List.length_append, List.length_cons, List.length_nil] at * <;> first | with_reducible assumption | omega) | (simp only [GS.some_l, List.length_set, List.length_append, List.length_cons, List.length_nil, z8] at * <;> first | with_reducible assumption | omega) | (simp at * <;> omega)) (by first | assumption | omega | (simp only [z8] at * <;> omega) | (simp only [GS.some_l, List.length_set, List.length_append, List.length_cons, List.length_nil] at * <;> first | with_reducible assumption | omega) | (simp only [GS.some_l, List.length_set, List.length_append, List.length_cons, List.length_nil, z8] at * <;> first | with_reducible assumption | omega) | (simp at * <;> omega)) (by first | assumption | omega | (simp only [z8] at * <;> omega) | (simp only [GS.some_l, List.length_set, List.length_append, List.length_cons, List.length_nil] at * <;> first | with_reducible assumption | omega) | (simp only [GS.some_l, List.length_set, List.length_append, List.length_cons, List.length_nil, z8] at * <;> first | with_reducible assumption | omega) | (simp at * <;> omega))) h11) (And.intro (gc_of (C := cfg) (f := 114) (a := lp114_1) (ks := [0, 1, 2, 6]) (st := ⟨49, [(6, I 1), (9, I 1), (8, I 0), (0, .lsl 1 0 l.length 1 (some 4)), (1, I 0), (2, I ((l.length : Nat) : Int))], [(1, ⟨l.map I, 1, false⟩)], 2, 2⟩) (st1 := ⟨49, [(0, .lsl 1 0 l.length 1 (some 4)), (1, I 0), (2, I ((l.length : Nat) : Int)), (6, I 1)], [(1, ⟨l.map I, 1, false⟩)], 2, 2⟩) (by kernel_rfl) (by (simp only [go_sem, Nat.reduceAdd, Nat.reduceEqDiff, Nat.reduceLT, Nat.reduceLeDiff, bI2, zN.idsL, zN.renL, zN.snapAll, zi.idsL, zi.renL, zi.snapAll]) <;> rfl)) trivial)) (by kernel_rfl)

def pdq4 (l : List Int) (q : Int) : List Int :=
  (isort4 l)

def sd32 (l : List Int) (q : Int) : St := ⟨134, [(27, .tup []), (26, I ((l.length : Nat) : Int)), (25, I 0), (24, .lsl 1 0 l.length 1 (some 4)), (23, B true), (22, I (w64 (((l.length : Nat) : Int) - 0))), (10, I (w64 (((l.length : Nat) : Int) - 0))), (21, I (w64 (((l.length : Nat) : Int) - 0))), (20, I 0), (19, I ((l.length : Nat) : Int)), (0, .lsl 1 0 l.length 1 (some 4)), (1, I 0), (2, I ((l.length : Nat) : Int)), (3, I q), (8, B true), (9, B true)], [(1, ⟨(isort4 l).map I, 1, false⟩)], 2, 2⟩

noncomputable def lp110_2 : Code := subC [1, 1, 0, 0] (bodyC Tryz.f110)

theorem I_pdq4 (l : List Int) (q : Int) (hl : l.length ≤ 12) : (lim cfg).inl 110 [.lsl 1 0 l.length 1 (some 4), I 0, I ((l.length : Nat) : Int), I q] [(1, ⟨l.map I, 1, false⟩)] 2 = some (.tup [], [(1, ⟨(pdq4 l q).map I, 1, false⟩)], 2) := by
  unfold pdq4
  have l1 := (show decide ((w64 (((l.length : Nat) : Int) - 0)) ≤ 12) = true from (decide_eq_true (by first | assumption | omega | (simp only [z8] at * <;> omega) | (simp only [GS.some_l, List.length_set, List.length_append, List.length_cons, List.length_nil] at * <;> first | with_reducible assumption | omega) | (simp only [GS.some_l, List.length_set, List.length_append, List.length_cons, List.length_nil, z8] at * <;> first | with_reducible assumption | omega) | (simp at * <;> omega))))
  have l2 := (And.intro (show liveFrom [(1, ⟨l.map I, 1, false⟩)] 256 [1] [] = some [1] from (by (simp only [liveFrom, go_sem, Nat.reduceAdd, Nat.reduceEqDiff, Nat.reduceLT, Nat.reduceLeDiff, bI2, zN.idsL, zN.renL, zN.snapAll, zi.idsL, zi.renL, zi.snapAll]) <;> rfl)) (I_isort4 l (by first | assumption | omega | (simp only [z8] at * <;> omega) | (simp only [GS.some_l, List.length_set, List.length_append, List.length_cons, List.length_nil] at * <;> first | with_reducible assumption | omega) | (simp only [GS.some_l, List.length_set, List.length_append, List.length_cons, List.length_nil, z8] at * <;> first | with_reducible assumption | omega) | (simp at * <;> omega))))
  exact po_inl [.gloop ⟨134, [(0, .lsl 1 0 l.length 1 (some 4)), (1, I 0), (2, I ((l.length : Nat) : Int)), (3, I q), (8, B true), (9, B true)], [(1, ⟨l.map I, 1, false⟩)], 2, 2⟩ .ret (sd32 l q)] (And.intro (show (lim cfg).loop 110 lp110_2 ⟨134, [(0, .lsl 1 0 l.length 1 (some 4)), (1, I 0), (2, I ((l.length : Nat) : Int)), (3, I q), (8, B true), (9, B true)], [(1, ⟨l.map I, 1, false⟩)], 2, 2⟩ = some (.ret, (sd32 l q)) from (zH [.dec true, .inlS [1] (.tup []) [(1, ⟨(isort4 l).map I, 1, false⟩)] 2] (And.intro (l2) (And.intro (l1) trivial)) (by kernel_rfl))) (And.intro (gc_of (C := cfg) (f := 110) (a := lp110_2) (ks := [0, 1, 2, 3, 8, 9]) (st := ⟨134, [(9, B true), (8, B true), (0, .lsl 1 0 l.length 1 (some 4)), (1, I 0), (2, I ((l.length : Nat) : Int)), (3, I q)], [(1, ⟨l.map I, 1, false⟩)], 2, 2⟩) (st1 := ⟨134, [(0, .lsl 1 0 l.length 1 (some 4)), (1, I 0), (2, I ((l.length : Nat) : Int)), (3, I q), (8, B true), (9, B true)], [(1, ⟨l.map I, 1, false⟩)], 2, 2⟩) (by kernel_rfl) (by (simp only [go_sem, Nat.reduceAdd, Nat.reduceEqDiff, Nat.reduceLT, Nat.reduceLeDiff, bI2, zN.idsL, zN.renL, zN.snapAll, zi.idsL, zi.renL, zi.snapAll]) <;> rfl)) trivial)) (by kernel_rfl)

def sort4 (l : List Int) : List Int :=
  (pdq4 l (bl12 ((l.length : Nat) : Int)))

theorem I_sort4 (l : List Int) (hl : l.length ≤ 12) : (lim cfg).inl 94 [.lsl 1 0 l.length 1 (some 4)] [(1, ⟨l.map I, 1, false⟩)] 2 = some (.tup [], [(1, ⟨(sort4 l).map I, 1, false⟩)], 2) := by
  unfold sort4
  exact po_inl [.pure (I (bl12 ((l.length : Nat) : Int))), .inlS [1] (.tup []) [(1, ⟨(pdq4 l (bl12 ((l.length : Nat) : Int))).map I, 1, false⟩)] 2] (And.intro (And.intro (show liveFrom [(1, ⟨l.map I, 1, false⟩)] 256 [1] [] = some [1] from (by (simp only [liveFrom, go_sem, Nat.reduceAdd, Nat.reduceEqDiff, Nat.reduceLT, Nat.reduceLeDiff, bI2, zN.idsL, zN.renL, zN.snapAll, zi.idsL, zi.renL, zi.snapAll]) <;> rfl)) (I_pdq4 l (bl12 ((l.length : Nat) : Int)) (by first | assumption | omega | (simp only [z8] at * <;> omega) | (simp only [GS.some_l, List.length_set, List.length_append, List.length_cons, List.length_nil] at * <;> first | with_reducible assumption | omega) | (simp only [GS.some_l, List.length_set, List.length_append, List.length_cons, List.length_nil, z8] at * <;> first | with_reducible assumption | omega) | (simp at * <;> omega)))) (And.intro (T_bl (n := ((l.length : Nat) : Int)) (by first | assumption | omega | (simp only [z8] at * <;> omega) | (simp only [GS.some_l, List.length_set, List.length_append, List.length_cons, List.length_nil] at * <;> first | with_reducible assumption | omega) | (simp only [GS.some_l, List.length_set, List.length_append, List.length_cons, List.length_nil, z8] at * <;> first | with_reducible assumption | omega) | (simp at * <;> omega)) (by first | assumption | omega | (simp only [z8] at * <;> omega) | (simp only [GS.some_l, List.length_set, List.length_append, List.length_cons, List.length_nil] at * <;> first | with_reducible assumption | omega) | (simp only [GS.some_l, List.length_set, List.length_append, List.length_cons, List.length_nil, z8] at * <;> first | with_reducible assumption | omega) | (simp at * <;> omega))) trivial)) (by kernel_rfl)
end Go.VS
namespace Go.VS
open Go Go.Proofs
set_option maxHeartbeats 0
set_option linter.unusedSimpArgs false
set_option linter.unusedVariables false
structure S_window where
  at_ : S_Span
  room_ : Int
  whole_ : S_Span
instance : Inhabited S_window := ⟨⟨default, 0, default⟩⟩
def S_window.D (x : S_window) : VS.D := .agg [I x.at_.lo, I x.at_.hi, I x.room_, I x.whole_.lo, I x.whole_.hi]
noncomputable def lp51_3 : Code := subC [1, 1, 0, 1, 0, 0] (bodyC Tryz.f51)

inductive LR_orders_total_3 where
  | x0 (v3_0 : Int)
instance : Inhabited LR_orders_total_3 := ⟨.x0 default⟩
def orders_total_3 : List Int → Int → LR_orders_total_3
  | [], v3_0 => .x0 v3_0
  | x3 :: rest3, v3_0 =>
    orders_total_3 rest3 (w64 (v3_0 + x3))
def lr_orders_total_3 (l : GS Int) : LR_orders_total_3 → Exit × St
  | .x0 v3_0 => ((.exit 0), ⟨17, [(9, B false), (3, I v3_0), (6, .sl l.nl (l.l.map I) (zsl l.nl 1) none), (7, I ((l.l.length : Nat) : Int)), (8, I ((l.l.length : Nat) : Int))], [], 0, 0⟩)
theorem lp_orders_total_3 (l : GS Int) : ∀ (rest3 : List Int) (i3 : Nat) (v3_0 : Int) (hd3 : l.l.drop i3 = rest3) (hi3 : i3 ≤ l.l.length) (hL3 : l.l.length ≤ 9223372036854775807), (lim cfg).loop 51 lp51_3 ⟨17, [(3, I v3_0), (6, .sl l.nl (l.l.map I) (zsl l.nl 1) none), (7, I ((l.l.length : Nat) : Int)), (8, I ((i3 : Nat) : Int))], [], 0, 0⟩ = some (lr_orders_total_3 l (orders_total_3 rest3 v3_0)) := by
  intro rest3
  induction rest3 with
  | nil =>
    intro i3 v3_0 hd3 hi3 hL3
    unfold orders_total_3
    obtain rfl : i3 = l.l.length := nil_eq hd3 hi3
    exact zH [.dec false] (And.intro (lt_no hd3) trivial) (by kernel_rfl)
  | cons x3 rest3 ih =>
    intro i3 v3_0 hd3 hi3 hL3
    have hlt3 := zv hd3
    unfold orders_total_3
    exact po_turn [.dec true, .el (I x3), .rw 15 (I ((i3 + 1 : Nat) : Int))] (And.intro (inc_rw (i := i3) (by have := zv hd3; omega)) (And.intro (el_at (s := l) (f := I) (k := 1) hd3) (And.intro (lt_at hd3) trivial))) (ih (i3 + 1) (w64 (v3_0 + x3)) (zA hd3) (zv hd3) (by first | assumption | omega | (simp only [z8] at * <;> omega) | (simp only [z5, GS.some_l, List.length_set, List.length_append, List.length_cons, List.length_nil] at * <;> first | with_reducible assumption | omega) | (simp only [z5, GS.some_l, List.length_set, List.length_append, List.length_cons, List.length_nil, z8] at * <;> first | with_reducible assumption | omega) | (simp at * <;> omega))) (by kernel_rfl)

def zj (l : GS Int) : Int :=
  match orders_total_3 l.l 0 with
  | .x0 v3_0 =>
    v3_0

theorem T_orders_total (l : GS Int) (hL_l : l.l.length ≤ 9223372036854775807) : (lim cfg).pure 51 [GS.D I 1 l] = some (I (zj l)) := by
  unfold zj
  cases h1 : orders_total_3 l.l 0 with
  | x0 v3_0 =>
    try dsimp only
    exact zh [.rw 7 (I ((l.l.length : Nat) : Int)), .loop (.exit 0) ⟨17, [(9, B false), (3, I v3_0), (6, .sl l.nl (l.l.map I) (zsl l.nl 1) none), (7, I ((l.l.length : Nat) : Int)), (8, I ((l.l.length : Nat) : Int))], [], 0, 0⟩] (And.intro (po_lr (q := lr_orders_total_3 l) (lp_orders_total_3 l l.l 0 0 (List.drop_zero) (Nat.zero_le _) (by first | assumption | omega | (simp only [z8] at * <;> omega) | (simp only [z5, GS.some_l, List.length_set, List.length_append, List.length_cons, List.length_nil] at * <;> first | with_reducible assumption | omega) | (simp only [z5, GS.some_l, List.length_set, List.length_append, List.length_cons, List.length_nil, z8] at * <;> first | with_reducible assumption | omega) | (simp at * <;> omega))) h1) (And.intro (zn I l) trivial)) (by kernel_rfl)

def ze (e : S_Estate) (g : Int) : S_window :=
  (⟨(⟨(zm e).lo, w64 (((zm e).hi) - g)⟩ : S_Span), g, e.whole⟩ : S_window)

theorem T_orders_windowOf (e : S_Estate) (g : Int) (hL_e_items : e.items.l.length ≤ 9223372036854775807) : (lim cfg).pure 49 [S_Estate.D e, I g] = some (S_window.D (ze e g)) := by
  unfold ze
  exact zh [.pure (.agg [I ((zm e).lo), I ((zm e).hi)])] (And.intro (T_orders_all e (by first | assumption | omega | (simp only [z8] at * <;> omega) | (simp only [z5, GS.some_l, List.length_set, List.length_append, List.length_cons, List.length_nil] at * <;> first | with_reducible assumption | omega) | (simp only [z5, GS.some_l, List.length_set, List.length_append, List.length_cons, List.length_nil, z8] at * <;> first | with_reducible assumption | omega) | (simp at * <;> omega))) trivial) (by kernel_rfl)

def za (w : S_window) : Int × Int :=
  (imax 0 (w64 (w.whole_.lo - w.at_.hi)), zV w.room_ (w64 (w.whole_.hi - w.at_.lo)))

theorem T_orders_window_ends (w : S_window) : (lim cfg).pure 93 [S_window.D w] = some (.tup [I ((za w).1), I ((za w).2)]) := by
  unfold za
  exact zh [] (trivial) (by kernel_rfl)

def zk (w : S_window) (s : Int) : S_Span :=
  bif ((zf (⟨w64 (w.at_.lo + s), w64 (w.at_.hi + s)⟩ : S_Span) w.whole_).2) then
    ((zf (⟨w64 (w.at_.lo + s), w64 (w.at_.hi + s)⟩ : S_Span) w.whole_).1)
  else
    ((zf (⟨w64 (w.at_.lo + s), w64 (w.at_.hi + s)⟩ : S_Span) w.whole_).1)

theorem T_orders_window_seen (w : S_window) (s : Int) : (lim cfg).pure 95 [S_window.D w, I s] = some (S_Span.D (zk w s)) := by
  unfold zk
  cases h1 : ((zf (⟨w64 (w.at_.lo + s), w64 (w.at_.hi + s)⟩ : S_Span) w.whole_).2) with
  | true =>
    exact zh [.pure (.tup [.agg [I (((zf (⟨w64 (w.at_.lo + s), w64 (w.at_.hi + s)⟩ : S_Span) w.whole_).1).lo), I (((zf (⟨w64 (w.at_.lo + s), w64 (w.at_.hi + s)⟩ : S_Span) w.whole_).1).hi)], B ((zf (⟨w64 (w.at_.lo + s), w64 (w.at_.hi + s)⟩ : S_Span) w.whole_).2)]), .dec true] (And.intro h1 (And.intro (T_orders_common (⟨w64 (w.at_.lo + s), w64 (w.at_.hi + s)⟩ : S_Span) w.whole_) trivial)) (by kernel_rfl)
  | false =>
    exact zh [.pure (.tup [.agg [I (((zf (⟨w64 (w.at_.lo + s), w64 (w.at_.hi + s)⟩ : S_Span) w.whole_).1).lo), I (((zf (⟨w64 (w.at_.lo + s), w64 (w.at_.hi + s)⟩ : S_Span) w.whole_).1).hi)], B ((zf (⟨w64 (w.at_.lo + s), w64 (w.at_.hi + s)⟩ : S_Span) w.whole_).2)]), .dec false] (And.intro h1 (And.intro (T_orders_common (⟨w64 (w.at_.lo + s), w64 (w.at_.hi + s)⟩ : S_Span) w.whole_) trivial)) (by kernel_rfl)

theorem isort4_len (l : List Int) (h : l.length ≤ 12) : (isort4 l).length = l.length := by
  unfold isort4
  cases h2 : isort4_1 (((l.length : Nat) : Int) - 1).toNat 1 l with
  | x0 i v =>
    by_cases h1 : 1 ≤ l.length
    · have := ivt_isort4_1 l (((l.length : Nat) : Int) - 1).toNat 1 l (by omega) (by omega) h rfl
      rw [h2] at this
      exact this
    · have : l = [] := List.eq_nil_of_length_eq_zero (by omega)
      subst this
      simp [isort4_1] at h2
      rw [← h2.2]
theorem z5 (a b c d : Int) : (sort4 [a, b, c, d]).length = 4 := isort4_len [a, b, c, d] (by simp)

noncomputable def lp50_6 : Code := subC [1, 1, 1, 1, 1, 0, 1, 0, 0] (bodyC Tryz.f50)

def sd33 (w : S_window) (i6 : Nat) (q6_0 : List Int) (x6 : Int) (v6_0 : Int) (v6_1 : Int) : St := ⟨69, [(46, I ((i6 + 1 : Nat) : Int)), (66, I ((i6 + 1 : Nat) : Int)), (7, I x6), (6, I (w64 (((zk w x6).hi) - ((zk w x6).lo)))), (65, I x6), (64, I (w64 (((zk w x6).hi) - ((zk w x6).lo)))), (63, I ((zk w x6).lo)), (62, .lref 2 0 2 0), (61, I ((zk w x6).hi)), (60, .lref 2 0 2 1), (59, B true), (58, I v6_0), (57, I (w64 (((zk w x6).hi) - ((zk w x6).lo)))), (56, I ((zk w x6).lo)), (55, .lref 2 0 2 0), (54, I ((zk w x6).hi)), (53, .lref 2 0 2 1), (11, .lref 2 0 2 0), (52, .agg [I ((zk w x6).lo), I ((zk w x6).hi)]), (51, I x6), (50, .agg [I w.at_.lo, I w.at_.hi, I w.room_, I w.whole_.lo, I w.whole_.hi]), (10, I x6), (49, I x6), (48, .lref 1 i6 1 0), (47, B true), (1, .lref 0 0 5 0), (6, I v6_0), (7, I v6_1), (44, .lsl 1 0 4 1 (some 4)), (45, I 4), (46, I ((i6 : Nat) : Int))], [(0, ⟨[.agg [I w.at_.lo, I w.at_.hi, I w.room_, I w.whole_.lo, I w.whole_.hi]], 5, false⟩), (1, ⟨q6_0.map I, 1, false⟩), (2, ⟨[.agg [I ((zk w x6).lo), I ((zk w x6).hi)]], 2, false⟩)], 3, 0⟩

def sd34 (w : S_window) (i6 : Nat) (q6_0 : List Int) (x6 : Int) (v6_0 : Int) (v6_1 : Int) : St := ⟨69, [(46, I ((i6 + 1 : Nat) : Int)), (66, I ((i6 + 1 : Nat) : Int)), (59, B false), (58, I v6_0), (57, I (w64 (((zk w x6).hi) - ((zk w x6).lo)))), (56, I ((zk w x6).lo)), (55, .lref 2 0 2 0), (54, I ((zk w x6).hi)), (53, .lref 2 0 2 1), (11, .lref 2 0 2 0), (52, .agg [I ((zk w x6).lo), I ((zk w x6).hi)]), (51, I x6), (50, .agg [I w.at_.lo, I w.at_.hi, I w.room_, I w.whole_.lo, I w.whole_.hi]), (10, I x6), (49, I x6), (48, .lref 1 i6 1 0), (47, B true), (1, .lref 0 0 5 0), (6, I v6_0), (7, I v6_1), (44, .lsl 1 0 4 1 (some 4)), (45, I 4), (46, I ((i6 : Nat) : Int))], [(0, ⟨[.agg [I w.at_.lo, I w.at_.hi, I w.room_, I w.whole_.lo, I w.whole_.hi]], 5, false⟩), (1, ⟨q6_0.map I, 1, false⟩), (2, ⟨[.agg [I ((zk w x6).lo), I ((zk w x6).hi)]], 2, false⟩)], 3, 0⟩

inductive LR_orders_window_widest_6 where
  | x0 (v6_0 : Int) (v6_1 : Int)
instance : Inhabited LR_orders_window_widest_6 := ⟨.x0 default default⟩
def zP (w : S_window) : List Int → Int → Int → LR_orders_window_widest_6
  | [], v6_0, v6_1 => .x0 v6_0 v6_1
  | x6 :: rest6, v6_0, v6_1 =>
    bif decide ((w64 (((zk w x6).hi) - ((zk w x6).lo))) > v6_0) then
      zP w rest6 (w64 (((zk w x6).hi) - ((zk w x6).lo))) x6
    else
      zP w rest6 v6_0 v6_1
def lr_orders_window_widest_6 (w : S_window) (q6_0 : List Int) : LR_orders_window_widest_6 → Exit × St
  | .x0 v6_0 v6_1 => ((.exit 0), ⟨69, [(47, B false), (1, .lref 0 0 5 0), (6, I v6_0), (7, I v6_1), (44, .lsl 1 0 4 1 (some 4)), (45, I 4), (46, I ((q6_0.length : Nat) : Int))], [(0, ⟨[.agg [I w.at_.lo, I w.at_.hi, I w.room_, I w.whole_.lo, I w.whole_.hi]], 5, false⟩), (1, ⟨q6_0.map I, 1, false⟩)], 2, 0⟩)
theorem lp_orders_window_widest_6 (w : S_window) (q6_0 : List Int) : ∀ (rest6 : List Int) (i6 : Nat) (v6_0 : Int) (v6_1 : Int) (hd6 : q6_0.drop i6 = rest6) (hi6 : i6 ≤ q6_0.length) (hq6 : q6_0.length = 4) (hL6 : q6_0.length ≤ 9223372036854775807), (lim cfg).loop 50 lp50_6 ⟨69, [(1, .lref 0 0 5 0), (6, I v6_0), (7, I v6_1), (44, .lsl 1 0 4 1 (some 4)), (45, I 4), (46, I ((i6 : Nat) : Int))], [(0, ⟨[.agg [I w.at_.lo, I w.at_.hi, I w.room_, I w.whole_.lo, I w.whole_.hi]], 5, false⟩), (1, ⟨q6_0.map I, 1, false⟩)], 2, 0⟩ = some (lr_orders_window_widest_6 w q6_0 (zP w rest6 v6_0 v6_1)) := by
  intro rest6
  induction rest6 with
  | nil =>
    intro i6 v6_0 v6_1 hd6 hi6 hq6 hL6
    unfold zP
    obtain rfl : i6 = q6_0.length := nil_eq hd6 hi6
    exact zH [.dec false] (And.intro (lt_no' hd6 hq6) trivial) (by kernel_rfl)
  | cons x6 rest6 ih =>
    intro i6 v6_0 v6_1 hd6 hi6 hq6 hL6
    have hlt6 := zv hd6
    unfold zP
    cases h2 : decide ((w64 (((zk w x6).hi) - ((zk w x6).lo))) > v6_0) with
    | true =>
      have g2 := of_decide_eq_true h2
      exact po_turn' (ks := [1, 6, 7, 44, 45, 46]) (st' := (sd33 w i6 q6_0 x6 v6_0 v6_1)) [.dec true, .op (some 48) ⟨.lref 1 i6 1 0, [], [], 2⟩, .op (some 49) ⟨I x6, [], [1], 2⟩, .pure (.agg [I ((zk w x6).lo), I ((zk w x6).hi)]), .dec true, .rw 66 (I ((i6 + 1 : Nat) : Int))] (And.intro (inc_rw (i := i6) (by have := zv hd6; omega)) (And.intro h2 (And.intro (T_orders_window_seen w x6) (And.intro (load_row (C := cfg) (objs := [(0, ⟨[.agg [I w.at_.lo, I w.at_.hi, I w.room_, I w.whole_.lo, I w.whole_.hi]], 5, false⟩), (1, ⟨q6_0.map I, 1, false⟩)]) (nxt := 2) (t := 3) (ty := ty3) (o := 1) (n := i6) (sz := 1) (sub := 0) (ob := ⟨q6_0.map I, 1, false⟩) (e := I x6) (d := I x6) (by kernel_rfl) (by kernel_rfl) rfl (row_at (f := I) hd6) (by kernel_rfl)) (And.intro (idx_row (C := cfg) (nxt := 2) (t := 32) (ty := ty32) (te := ty3) (e := 3) (o := 1) (len := 4) (sz := 1) (cap := (some 4)) (i := ((i6 : Nat) : Int)) (by kernel_rfl) rfl (by kernel_rfl) rfl (by first | assumption | omega | (simp only [z8] at * <;> omega) | (simp only [z5, GS.some_l, List.length_set, List.length_append, List.length_cons, List.length_nil] at * <;> first | with_reducible assumption | omega) | (simp only [z5, GS.some_l, List.length_set, List.length_append, List.length_cons, List.length_nil, z8] at * <;> first | with_reducible assumption | omega) | (simp at * <;> omega)) (by first | assumption | omega | (simp only [z8] at * <;> omega) | (simp only [z5, GS.some_l, List.length_set, List.length_append, List.length_cons, List.length_nil] at * <;> first | with_reducible assumption | omega) | (simp only [z5, GS.some_l, List.length_set, List.length_append, List.length_cons, List.length_nil, z8] at * <;> first | with_reducible assumption | omega) | (simp at * <;> omega))) (And.intro (lt_at' hd6 hq6) trivial)))))) (by kernel_rfl) (by (simp only [sd33, go_sem, Nat.reduceAdd, Nat.reduceEqDiff, Nat.reduceLT, Nat.reduceLeDiff, bI2, zN.idsL, zN.renL, zN.snapAll, zi.idsL, zi.renL, zi.snapAll]) <;> rfl) (ih (i6 + 1) (w64 (((zk w x6).hi) - ((zk w x6).lo))) x6 (zA hd6) (zv hd6) (by first | assumption | omega | (simp only [z8] at * <;> omega) | (simp only [z5, GS.some_l, List.length_set, List.length_append, List.length_cons, List.length_nil] at * <;> first | with_reducible assumption | omega) | (simp only [z5, GS.some_l, List.length_set, List.length_append, List.length_cons, List.length_nil, z8] at * <;> first | with_reducible assumption | omega) | (simp at * <;> omega)) (by first | assumption | omega | (simp only [z8] at * <;> omega) | (simp only [z5, GS.some_l, List.length_set, List.length_append, List.length_cons, List.length_nil] at * <;> first | with_reducible assumption | omega) | (simp only [z5, GS.some_l, List.length_set, List.length_append, List.length_cons, List.length_nil, z8] at * <;> first | with_reducible assumption | omega) | (simp at * <;> omega))) (by kernel_rfl)
    | false =>
      have g2 := of_decide_eq_false h2
      exact po_turn' (ks := [1, 6, 7, 44, 45, 46]) (st' := (sd34 w i6 q6_0 x6 v6_0 v6_1)) [.dec true, .op (some 48) ⟨.lref 1 i6 1 0, [], [], 2⟩, .op (some 49) ⟨I x6, [], [1], 2⟩, .pure (.agg [I ((zk w x6).lo), I ((zk w x6).hi)]), .dec false, .rw 66 (I ((i6 + 1 : Nat) : Int))] (And.intro (inc_rw (i := i6) (by have := zv hd6; omega)) (And.intro h2 (And.intro (T_orders_window_seen w x6) (And.intro (load_row (C := cfg) (objs := [(0, ⟨[.agg [I w.at_.lo, I w.at_.hi, I w.room_, I w.whole_.lo, I w.whole_.hi]], 5, false⟩), (1, ⟨q6_0.map I, 1, false⟩)]) (nxt := 2) (t := 3) (ty := ty3) (o := 1) (n := i6) (sz := 1) (sub := 0) (ob := ⟨q6_0.map I, 1, false⟩) (e := I x6) (d := I x6) (by kernel_rfl) (by kernel_rfl) rfl (row_at (f := I) hd6) (by kernel_rfl)) (And.intro (idx_row (C := cfg) (nxt := 2) (t := 32) (ty := ty32) (te := ty3) (e := 3) (o := 1) (len := 4) (sz := 1) (cap := (some 4)) (i := ((i6 : Nat) : Int)) (by kernel_rfl) rfl (by kernel_rfl) rfl (by first | assumption | omega | (simp only [z8] at * <;> omega) | (simp only [z5, GS.some_l, List.length_set, List.length_append, List.length_cons, List.length_nil] at * <;> first | with_reducible assumption | omega) | (simp only [z5, GS.some_l, List.length_set, List.length_append, List.length_cons, List.length_nil, z8] at * <;> first | with_reducible assumption | omega) | (simp at * <;> omega)) (by first | assumption | omega | (simp only [z8] at * <;> omega) | (simp only [z5, GS.some_l, List.length_set, List.length_append, List.length_cons, List.length_nil] at * <;> first | with_reducible assumption | omega) | (simp only [z5, GS.some_l, List.length_set, List.length_append, List.length_cons, List.length_nil, z8] at * <;> first | with_reducible assumption | omega) | (simp at * <;> omega))) (And.intro (lt_at' hd6 hq6) trivial)))))) (by kernel_rfl) (by (simp only [sd34, go_sem, Nat.reduceAdd, Nat.reduceEqDiff, Nat.reduceLT, Nat.reduceLeDiff, bI2, zN.idsL, zN.renL, zN.snapAll, zi.idsL, zi.renL, zi.snapAll]) <;> rfl) (ih (i6 + 1) v6_0 v6_1 (zA hd6) (zv hd6) (by first | assumption | omega | (simp only [z8] at * <;> omega) | (simp only [z5, GS.some_l, List.length_set, List.length_append, List.length_cons, List.length_nil] at * <;> first | with_reducible assumption | omega) | (simp only [z5, GS.some_l, List.length_set, List.length_append, List.length_cons, List.length_nil, z8] at * <;> first | with_reducible assumption | omega) | (simp at * <;> omega)) (by first | assumption | omega | (simp only [z8] at * <;> omega) | (simp only [z5, GS.some_l, List.length_set, List.length_append, List.length_cons, List.length_nil] at * <;> first | with_reducible assumption | omega) | (simp only [z5, GS.some_l, List.length_set, List.length_append, List.length_cons, List.length_nil, z8] at * <;> first | with_reducible assumption | omega) | (simp at * <;> omega))) (by kernel_rfl)

def zz (w : S_window) : Int × Int :=
  match zP w (sort4 [((za w).1), ((za w).2), zV (imax (w64 (w.whole_.lo - w.at_.lo)) ((za w).1)) ((za w).2), zV (imax (w64 (w.whole_.hi - w.at_.hi)) ((za w).1)) ((za w).2)]) (-1) 0 with
  | .x0 v6_0 v6_1 =>
    (v6_0, v6_1)

def sd36 (w : S_window) : St := ⟨69, [(1, .lref 0 0 5 0), (6, I (-1)), (7, I 0), (44, .lsl 1 0 4 1 (some 4)), (45, I 4), (46, I 0)], [(0, ⟨[.agg [I w.at_.lo, I w.at_.hi, I w.room_, I w.whole_.lo, I w.whole_.hi]], 5, false⟩), (1, ⟨(sort4 [((za w).1), ((za w).2), zV (imax (w64 (w.whole_.lo - w.at_.lo)) ((za w).1)) ((za w).2), zV (imax (w64 (w.whole_.hi - w.at_.hi)) ((za w).1)) ((za w).2)]).map I, 1, false⟩)], 2, 0⟩

def sd37 (w : S_window) (v6_0 : Int) (v6_1 : Int) : St := ⟨69, [(47, B false), (1, .lref 0 0 5 0), (6, I v6_0), (7, I v6_1), (44, .lsl 1 0 4 1 (some 4)), (45, I 4), (46, I (((sort4 [((za w).1), ((za w).2), zV (imax (w64 (w.whole_.lo - w.at_.lo)) ((za w).1)) ((za w).2), zV (imax (w64 (w.whole_.hi - w.at_.hi)) ((za w).1)) ((za w).2)]).length : Nat) : Int))], [(0, ⟨[.agg [I w.at_.lo, I w.at_.hi, I w.room_, I w.whole_.lo, I w.whole_.hi]], 5, false⟩), (1, ⟨(sort4 [((za w).1), ((za w).2), zV (imax (w64 (w.whole_.lo - w.at_.lo)) ((za w).1)) ((za w).2), zV (imax (w64 (w.whole_.hi - w.at_.hi)) ((za w).1)) ((za w).2)]).map I, 1, false⟩)], 2, 0⟩

def sd35 (w : S_window) : St := ⟨69, [(46, I 0), (45, I 4), (44, .lsl 1 0 4 1 (some 4)), (43, .tup []), (42, .lsl 1 0 4 1 (some 4)), (8, .lsl 1 0 4 1 (some 4)), (41, .lsl 1 0 4 1 (some 4)), (40, I (zV (imax (w64 (w.whole_.hi - w.at_.hi)) ((za w).1)) ((za w).2))), (39, I ((za w).2)), (38, I (imax (w64 (w.whole_.hi - w.at_.hi)) ((za w).1))), (37, I ((za w).1)), (36, I (w64 (w.whole_.hi - w.at_.hi))), (35, I w.at_.hi), (34, .lref 0 0 5 1), (33, .lref 0 0 5 0), (32, I w.whole_.hi), (31, .lref 0 0 5 4), (30, .lref 0 0 5 3), (29, I (zV (imax (w64 (w.whole_.lo - w.at_.lo)) ((za w).1)) ((za w).2))), (28, I ((za w).2)), (27, I (imax (w64 (w.whole_.lo - w.at_.lo)) ((za w).1))), (26, I ((za w).1)), (25, I (w64 (w.whole_.lo - w.at_.lo))), (24, I w.at_.lo), (23, .lref 0 0 5 0), (22, .lref 0 0 5 0), (21, I w.whole_.lo), (20, .lref 0 0 5 3), (19, .lref 0 0 5 3), (18, I ((za w).2)), (17, I ((za w).1)), (7, I 0), (6, I (-1)), (5, I ((za w).2)), (4, I ((za w).1)), (16, I ((za w).2)), (15, I ((za w).1)), (12, .tup [I ((za w).1), I ((za w).2)]), (14, .tup [I ((za w).1), I ((za w).2)]), (13, .agg [I w.at_.lo, I w.at_.hi, I w.room_, I w.whole_.lo, I w.whole_.hi]), (3, I 0), (2, I 0), (1, .lref 0 0 5 0), (0, .agg [I w.at_.lo, I w.at_.hi, I w.room_, I w.whole_.lo, I w.whole_.hi])], [(0, ⟨[.agg [I w.at_.lo, I w.at_.hi, I w.room_, I w.whole_.lo, I w.whole_.hi]], 5, false⟩), (1, ⟨(sort4 [((za w).1), ((za w).2), zV (imax (w64 (w.whole_.lo - w.at_.lo)) ((za w).1)) ((za w).2), zV (imax (w64 (w.whole_.hi - w.at_.hi)) ((za w).1)) ((za w).2)]).map I, 1, false⟩)], 2, 0⟩

theorem T_orders_window_widest (w : S_window) : (lim cfg).pure 50 [S_window.D w] = some (.tup [I ((zz w).1), I ((zz w).2)]) := by
  unfold zz
  cases h3 : zP w (sort4 [((za w).1), ((za w).2), zV (imax (w64 (w.whole_.lo - w.at_.lo)) ((za w).1)) ((za w).2), zV (imax (w64 (w.whole_.hi - w.at_.hi)) ((za w).1)) ((za w).2)]) (-1) 0 with
  | x0 v6_0 v6_1 =>
    try dsimp only
    exact zh [.pure (.tup [I ((za w).1), I ((za w).2)]), .inl (.tup []) [(1, ⟨(sort4 [((za w).1), ((za w).2), zV (imax (w64 (w.whole_.lo - w.at_.lo)) ((za w).1)) ((za w).2), zV (imax (w64 (w.whole_.hi - w.at_.hi)) ((za w).1)) ((za w).2)]).map I, 1, false⟩)] 2, .gloop (sd36 w) (.exit 0) (sd37 w v6_0 v6_1)] (And.intro (po_lr (q := lr_orders_window_widest_6 w (sort4 [((za w).1), ((za w).2), zV (imax (w64 (w.whole_.lo - w.at_.lo)) ((za w).1)) ((za w).2), zV (imax (w64 (w.whole_.hi - w.at_.hi)) ((za w).1)) ((za w).2)])) (lp_orders_window_widest_6 w (sort4 [((za w).1), ((za w).2), zV (imax (w64 (w.whole_.lo - w.at_.lo)) ((za w).1)) ((za w).2), zV (imax (w64 (w.whole_.hi - w.at_.hi)) ((za w).1)) ((za w).2)]) (sort4 [((za w).1), ((za w).2), zV (imax (w64 (w.whole_.lo - w.at_.lo)) ((za w).1)) ((za w).2), zV (imax (w64 (w.whole_.hi - w.at_.hi)) ((za w).1)) ((za w).2)]) 0 (-1) 0 (List.drop_zero) (Nat.zero_le _) (by first | assumption | omega | (simp only [z8] at * <;> omega) | (simp only [z5, GS.some_l, List.length_set, List.length_append, List.length_cons, List.length_nil] at * <;> first | with_reducible assumption | omega) | (simp only [z5, GS.some_l, List.length_set, List.length_append, List.length_cons, List.length_nil, z8] at * <;> first | with_reducible assumption | omega) | (simp at * <;> omega)) (by first | assumption | omega | (simp only [z8] at * <;> omega) | (simp only [z5, GS.some_l, List.length_set, List.length_append, List.length_cons, List.length_nil] at * <;> first | with_reducible assumption | omega) | (simp only [z5, GS.some_l, List.length_set, List.length_append, List.length_cons, List.length_nil, z8] at * <;> first | with_reducible assumption | omega) | (simp at * <;> omega))) h3) (And.intro (gc_of (C := cfg) (f := 50) (a := lp50_6) (ks := [1, 6, 7, 44, 45, 46]) (st := (sd35 w)) (st1 := (sd36 w)) (by kernel_rfl) (by (simp only [sd35, sd36, go_sem, Nat.reduceAdd, Nat.reduceEqDiff, Nat.reduceLT, Nat.reduceLeDiff, bI2, zN.idsL, zN.renL, zN.snapAll, zi.idsL, zi.renL, zi.snapAll]) <;> rfl)) (And.intro (I_sort4 [((za w).1), ((za w).2), zV (imax (w64 (w.whole_.lo - w.at_.lo)) ((za w).1)) ((za w).2), zV (imax (w64 (w.whole_.hi - w.at_.hi)) ((za w).1)) ((za w).2)] (by first | assumption | omega | (simp only [z8] at * <;> omega) | (simp only [z5, GS.some_l, List.length_set, List.length_append, List.length_cons, List.length_nil] at * <;> first | with_reducible assumption | omega) | (simp only [z5, GS.some_l, List.length_set, List.length_append, List.length_cons, List.length_nil, z8] at * <;> first | with_reducible assumption | omega) | (simp at * <;> omega))) (And.intro (T_orders_window_ends w) trivial)))) (by kernel_rfl)

noncomputable def lp76_5 : Code := subC [1, 1, 0, 1, 0, 0] (bodyC Tryz.f76)

inductive LR_orders_right_5 where
  | x0
  | x1 (i5 : Nat) (x5 : Int)
  | x2 (i5 : Nat) (x5 : Int)
instance : Inhabited LR_orders_right_5 := ⟨.x0⟩
def orders_right_5 (e : S_Estate) (items : GS Int) : List Int → Nat → LR_orders_right_5
  | [], i5 => .x0
  | x5 :: rest5, i5 =>
    bif (zt x5 0 (w64 (((e.items.l.length : Nat) : Int) - 1))) then
      bif decide (((i5 : Nat) : Int) > 0) then
        bif decide ((GS.at items (w64 (((i5 : Nat) : Int) - 1))) ≥ x5) then
          .x1 i5 x5
        else
          orders_right_5 e items rest5 (i5 + 1)
      else
        orders_right_5 e items rest5 (i5 + 1)
    else
      .x2 i5 x5
def lr_orders_right_5 (e : S_Estate) (items : GS Int) : LR_orders_right_5 → Exit × St
  | .x0 => ((.exit 0), ⟨41, [(16, B false), (1, .sl items.nl (items.l.map I) (zsl items.nl 1) none), (2, .lref 0 0 3 0), (13, .sl items.nl (items.l.map I) (zsl items.nl 1) none), (14, I ((items.l.length : Nat) : Int)), (15, I ((items.l.length : Nat) : Int))], [(0, ⟨[.agg [.sl e.items.nl (e.items.l.map S_Item.D) (zsl e.items.nl 4) none, I e.whole.lo, I e.whole.hi]], 3, false⟩)], 1, 0⟩)
  | .x1 i5 x5 => (.ret, ⟨41, [(4, I 1), (39, B true), (38, B true), (37, B true), (36, I x5), (35, I (GS.at items (w64 (((i5 : Nat) : Int) - 1)))), (34, .ptr (I (GS.at items (w64 (((i5 : Nat) : Int) - 1))))), (33, I (w64 (((i5 : Nat) : Int) - 1))), (32, I ((i5 : Nat) : Int)), (31, .sl items.nl (items.l.map I) (zsl items.nl 1) none), (30, B true), (29, B true), (28, I ((i5 : Nat) : Int)), (27, B false), (26, B false), (25, B true), (24, I (w64 (((e.items.l.length : Nat) : Int) - 1))), (23, I ((e.items.l.length : Nat) : Int)), (22, .sl e.items.nl (e.items.l.map S_Item.D) (zsl e.items.nl 4) none), (21, .lref 0 0 3 0), (20, I x5), (7, I x5), (6, I ((i5 : Nat) : Int)), (19, I x5), (18, .ptr (I x5)), (17, I ((i5 : Nat) : Int)), (16, B true), (1, .sl items.nl (items.l.map I) (zsl items.nl 1) none), (2, .lref 0 0 3 0), (13, .sl items.nl (items.l.map I) (zsl items.nl 1) none), (14, I ((items.l.length : Nat) : Int)), (15, I ((i5 : Nat) : Int))], [(0, ⟨[.agg [.sl e.items.nl (e.items.l.map S_Item.D) (zsl e.items.nl 4) none, I e.whole.lo, I e.whole.hi]], 3, false⟩)], 1, 0⟩)
  | .x2 i5 x5 => (.ret, ⟨41, [(4, I 1), (39, B true), (38, .tup []), (37, .tup []), (36, .tup []), (35, .tup []), (34, .tup []), (33, .tup []), (32, .tup []), (31, .tup []), (30, .tup []), (29, .tup []), (28, .tup []), (27, B true), (26, B true), (25, B false), (24, I (w64 (((e.items.l.length : Nat) : Int) - 1))), (23, I ((e.items.l.length : Nat) : Int)), (22, .sl e.items.nl (e.items.l.map S_Item.D) (zsl e.items.nl 4) none), (21, .lref 0 0 3 0), (20, I x5), (7, I x5), (6, I ((i5 : Nat) : Int)), (19, I x5), (18, .ptr (I x5)), (17, I ((i5 : Nat) : Int)), (16, B true), (1, .sl items.nl (items.l.map I) (zsl items.nl 1) none), (2, .lref 0 0 3 0), (13, .sl items.nl (items.l.map I) (zsl items.nl 1) none), (14, I ((items.l.length : Nat) : Int)), (15, I ((i5 : Nat) : Int))], [(0, ⟨[.agg [.sl e.items.nl (e.items.l.map S_Item.D) (zsl e.items.nl 4) none, I e.whole.lo, I e.whole.hi]], 3, false⟩)], 1, 0⟩)
def orders_right_5_l_o1 (e : S_Estate) (x5 : Int) : List Ora := [.dec true, .el (I x5), .rw 23 (I ((e.items.l.length : Nat) : Int)), .pure (B (zt x5 0 (w64 (((e.items.l.length : Nat) : Int) - 1))))]
theorem lp_orders_right_5 (e : S_Estate) (items : GS Int) : ∀ (rest5 : List Int) (i5 : Nat) (hd5 : items.l.drop i5 = rest5) (hi5 : i5 ≤ items.l.length) (hL5 : items.l.length ≤ 9223372036854775807), (lim cfg).loop 76 lp76_5 ⟨41, [(1, .sl items.nl (items.l.map I) (zsl items.nl 1) none), (2, .lref 0 0 3 0), (13, .sl items.nl (items.l.map I) (zsl items.nl 1) none), (14, I ((items.l.length : Nat) : Int)), (15, I ((i5 : Nat) : Int))], [(0, ⟨[.agg [.sl e.items.nl (e.items.l.map S_Item.D) (zsl e.items.nl 4) none, I e.whole.lo, I e.whole.hi]], 3, false⟩)], 1, 0⟩ = some (lr_orders_right_5 e items (orders_right_5 e items rest5 i5)) := by
  intro rest5
  induction rest5 with
  | nil =>
    intro i5 hd5 hi5 hL5
    unfold orders_right_5
    obtain rfl : i5 = items.l.length := nil_eq hd5 hi5
    exact zH [.dec false] (And.intro (lt_no hd5) trivial) (by kernel_rfl)
  | cons x5 rest5 ih =>
    intro i5 hd5 hi5 hL5
    have hlt5 := zv hd5
    unfold orders_right_5
    have p1 := (el_at (s := items) (f := I) (k := 1) hd5)
    have p2 := (T_orders_within x5 0 (w64 (((e.items.l.length : Nat) : Int) - 1)))
    cases h5 : (zt x5 0 (w64 (((e.items.l.length : Nat) : Int) - 1))) with
    | true =>
      have g5 := within_t h5
      cases h6 : decide (((i5 : Nat) : Int) > 0) with
      | true =>
        have g6 := of_decide_eq_true h6
        have p3 := (el_in (s := items) (f := I) (k := 1) (i := w64 (((i5 : Nat) : Int) - 1)) (by first | assumption | omega | (simp only [z8] at * <;> omega) | (simp only [z5, GS.some_l, List.length_set, List.length_append, List.length_cons, List.length_nil] at * <;> first | with_reducible assumption | omega) | (simp only [z5, GS.some_l, List.length_set, List.length_append, List.length_cons, List.length_nil, z8] at * <;> first | with_reducible assumption | omega) | (simp at * <;> omega)) (by first | assumption | omega | (simp only [z8] at * <;> omega) | (simp only [z5, GS.some_l, List.length_set, List.length_append, List.length_cons, List.length_nil] at * <;> first | with_reducible assumption | omega) | (simp only [z5, GS.some_l, List.length_set, List.length_append, List.length_cons, List.length_nil, z8] at * <;> first | with_reducible assumption | omega) | (simp at * <;> omega)))
        cases h7 : decide ((GS.at items (w64 (((i5 : Nat) : Int) - 1))) ≥ x5) with
        | true =>
          have g7 := of_decide_eq_true h7
          exact zH ((orders_right_5_l_o1 e x5) ++ [.dec true, .dec true, .el (I (GS.at items (w64 (((i5 : Nat) : Int) - 1)))), .dec true]) (And.intro h7 (And.intro p3 (And.intro h6 (And.intro h5 (And.intro p2 (And.intro (zn S_Item.D e.items) (And.intro p1 (And.intro (lt_at hd5) trivial)))))))) (by kernel_rfl)
        | false =>
          have g7 := of_decide_eq_false h7
          exact po_turn ((orders_right_5_l_o1 e x5) ++ [.dec true, .dec true, .el (I (GS.at items (w64 (((i5 : Nat) : Int) - 1)))), .dec false, .rw 40 (I ((i5 + 1 : Nat) : Int))]) (And.intro (inc_rw (i := i5) (by have := zv hd5; omega)) (And.intro h7 (And.intro p3 (And.intro h6 (And.intro h5 (And.intro p2 (And.intro (zn S_Item.D e.items) (And.intro p1 (And.intro (lt_at hd5) trivial))))))))) (ih (i5 + 1) (zA hd5) (zv hd5) (by first | assumption | omega | (simp only [z8] at * <;> omega) | (simp only [z5, GS.some_l, List.length_set, List.length_append, List.length_cons, List.length_nil] at * <;> first | with_reducible assumption | omega) | (simp only [z5, GS.some_l, List.length_set, List.length_append, List.length_cons, List.length_nil, z8] at * <;> first | with_reducible assumption | omega) | (simp at * <;> omega))) (by kernel_rfl)
      | false =>
        have g6 := of_decide_eq_false h6
        exact po_turn ((orders_right_5_l_o1 e x5) ++ [.dec true, .dec false, .rw 40 (I ((i5 + 1 : Nat) : Int))]) (And.intro (inc_rw (i := i5) (by have := zv hd5; omega)) (And.intro h6 (And.intro h5 (And.intro p2 (And.intro (zn S_Item.D e.items) (And.intro p1 (And.intro (lt_at hd5) trivial))))))) (ih (i5 + 1) (zA hd5) (zv hd5) (by first | assumption | omega | (simp only [z8] at * <;> omega) | (simp only [z5, GS.some_l, List.length_set, List.length_append, List.length_cons, List.length_nil] at * <;> first | with_reducible assumption | omega) | (simp only [z5, GS.some_l, List.length_set, List.length_append, List.length_cons, List.length_nil, z8] at * <;> first | with_reducible assumption | omega) | (simp at * <;> omega))) (by kernel_rfl)
    | false =>
      have g5 := within_f h5
      exact zH ((orders_right_5_l_o1 e x5) ++ [.dec false]) (And.intro h5 (And.intro p2 (And.intro (zn S_Item.D e.items) (And.intro p1 (And.intro (lt_at hd5) trivial))))) (by kernel_rfl)

def zp (e : S_Estate) (items : GS Int) : Int :=
  bif ((zo e) != 0) then
    (zo e)
  else
    match orders_right_5 e items items.l 0 with
    | .x0 =>
      0
    | .x1 i5 x5 =>
      1
    | .x2 i5 x5 =>
      1

def sd38 (e : S_Estate) (items : GS Int) : St := ⟨41, [(16, B false), (1, .sl items.nl (items.l.map I) (zsl items.nl 1) none), (2, .lref 0 0 3 0), (13, .sl items.nl (items.l.map I) (zsl items.nl 1) none), (14, I ((items.l.length : Nat) : Int)), (15, I ((items.l.length : Nat) : Int))], [(0, ⟨[.agg [.sl e.items.nl (e.items.l.map S_Item.D) (zsl e.items.nl 4) none, I e.whole.lo, I e.whole.hi]], 3, false⟩)], 1, 0⟩

def sd39 (e : S_Estate) (items : GS Int) (i5 : Nat) (x5 : Int) : St := ⟨41, [(4, I 1), (39, B true), (38, B true), (37, B true), (36, I x5), (35, I (GS.at items (w64 (((i5 : Nat) : Int) - 1)))), (34, .ptr (I (GS.at items (w64 (((i5 : Nat) : Int) - 1))))), (33, I (w64 (((i5 : Nat) : Int) - 1))), (32, I ((i5 : Nat) : Int)), (31, .sl items.nl (items.l.map I) (zsl items.nl 1) none), (30, B true), (29, B true), (28, I ((i5 : Nat) : Int)), (27, B false), (26, B false), (25, B true), (24, I (w64 (((e.items.l.length : Nat) : Int) - 1))), (23, I ((e.items.l.length : Nat) : Int)), (22, .sl e.items.nl (e.items.l.map S_Item.D) (zsl e.items.nl 4) none), (21, .lref 0 0 3 0), (20, I x5), (7, I x5), (6, I ((i5 : Nat) : Int)), (19, I x5), (18, .ptr (I x5)), (17, I ((i5 : Nat) : Int)), (16, B true), (1, .sl items.nl (items.l.map I) (zsl items.nl 1) none), (2, .lref 0 0 3 0), (13, .sl items.nl (items.l.map I) (zsl items.nl 1) none), (14, I ((items.l.length : Nat) : Int)), (15, I ((i5 : Nat) : Int))], [(0, ⟨[.agg [.sl e.items.nl (e.items.l.map S_Item.D) (zsl e.items.nl 4) none, I e.whole.lo, I e.whole.hi]], 3, false⟩)], 1, 0⟩

def sd40 (e : S_Estate) (items : GS Int) (i5 : Nat) (x5 : Int) : St := ⟨41, [(4, I 1), (39, B true), (38, .tup []), (37, .tup []), (36, .tup []), (35, .tup []), (34, .tup []), (33, .tup []), (32, .tup []), (31, .tup []), (30, .tup []), (29, .tup []), (28, .tup []), (27, B true), (26, B true), (25, B false), (24, I (w64 (((e.items.l.length : Nat) : Int) - 1))), (23, I ((e.items.l.length : Nat) : Int)), (22, .sl e.items.nl (e.items.l.map S_Item.D) (zsl e.items.nl 4) none), (21, .lref 0 0 3 0), (20, I x5), (7, I x5), (6, I ((i5 : Nat) : Int)), (19, I x5), (18, .ptr (I x5)), (17, I ((i5 : Nat) : Int)), (16, B true), (1, .sl items.nl (items.l.map I) (zsl items.nl 1) none), (2, .lref 0 0 3 0), (13, .sl items.nl (items.l.map I) (zsl items.nl 1) none), (14, I ((items.l.length : Nat) : Int)), (15, I ((i5 : Nat) : Int))], [(0, ⟨[.agg [.sl e.items.nl (e.items.l.map S_Item.D) (zsl e.items.nl 4) none, I e.whole.lo, I e.whole.hi]], 3, false⟩)], 1, 0⟩

theorem zT (e : S_Estate) (items : GS Int) (hL_items : items.l.length ≤ 9223372036854775807) : (lim cfg).pure 76 [S_Estate.D e, GS.D I 1 items] = some (I (zp e items)) := by
  unfold zp
  cases h1 : ((zo e) != 0) with
  | true =>
    have g1 := y0 h1
    exact zh [.pure (I (zo e)), .dec true] (And.intro h1 (And.intro (zy e) trivial)) (by kernel_rfl)
  | false =>
    have g1 := check_len (zF h1)
    cases h8 : orders_right_5 e items items.l 0 with
    | x0 =>
      try dsimp only
      exact zh [.pure (I (zo e)), .dec false, .rw 14 (I ((items.l.length : Nat) : Int)), .loop (.exit 0) (sd38 e items)] (And.intro (po_lr (q := lr_orders_right_5 e items) (lp_orders_right_5 e items items.l 0 (List.drop_zero) (Nat.zero_le _) (by first | assumption | omega | (simp only [z8] at * <;> omega) | (simp only [z5, GS.some_l, List.length_set, List.length_append, List.length_cons, List.length_nil] at * <;> first | with_reducible assumption | omega) | (simp only [z5, GS.some_l, List.length_set, List.length_append, List.length_cons, List.length_nil, z8] at * <;> first | with_reducible assumption | omega) | (simp at * <;> omega))) h8) (And.intro (zn I items) (And.intro h1 (And.intro (zy e) trivial)))) (by kernel_rfl)
    | x1 i5 x5 =>
      try dsimp only
      exact zh [.pure (I (zo e)), .dec false, .rw 14 (I ((items.l.length : Nat) : Int)), .loop .ret (sd39 e items i5 x5)] (And.intro (po_lr (q := lr_orders_right_5 e items) (lp_orders_right_5 e items items.l 0 (List.drop_zero) (Nat.zero_le _) (by first | assumption | omega | (simp only [z8] at * <;> omega) | (simp only [z5, GS.some_l, List.length_set, List.length_append, List.length_cons, List.length_nil] at * <;> first | with_reducible assumption | omega) | (simp only [z5, GS.some_l, List.length_set, List.length_append, List.length_cons, List.length_nil, z8] at * <;> first | with_reducible assumption | omega) | (simp at * <;> omega))) h8) (And.intro (zn I items) (And.intro h1 (And.intro (zy e) trivial)))) (by kernel_rfl)
    | x2 i5 x5 =>
      try dsimp only
      exact zh [.pure (I (zo e)), .dec false, .rw 14 (I ((items.l.length : Nat) : Int)), .loop .ret (sd40 e items i5 x5)] (And.intro (po_lr (q := lr_orders_right_5 e items) (lp_orders_right_5 e items items.l 0 (List.drop_zero) (Nat.zero_le _) (by first | assumption | omega | (simp only [z8] at * <;> omega) | (simp only [z5, GS.some_l, List.length_set, List.length_append, List.length_cons, List.length_nil] at * <;> first | with_reducible assumption | omega) | (simp only [z5, GS.some_l, List.length_set, List.length_append, List.length_cons, List.length_nil, z8] at * <;> first | with_reducible assumption | omega) | (simp at * <;> omega))) h8) (And.intro (zn I items) (And.intro h1 (And.intro (zy e) trivial)))) (by kernel_rfl)

/-- Numbers that increase, above p and below n. -/
def inc (p n : Int) : List Int → Prop
  | [] => True
  | x :: l => p < x ∧ 0 ≤ x ∧ x < n ∧ inc x n l
theorem inc_mem : ∀ {p n : Int} {l : List Int}, inc p n l → ∀ x ∈ l, 0 ≤ x ∧ x < n
  | _, _, [], _, x, hx => by cases hx
  | p, n, y :: l, h, x, hx => by
    rcases List.mem_cons.1 hx with rfl | hx
    · exact ⟨h.2.1, h.2.2.1⟩
    · exact inc_mem h.2.2.2 x hx
theorem inc_len : ∀ {p n : Int} {l : List Int}, inc p n l → -1 ≤ p → l ≠ [] → (l.length : Int) ≤ n - p - 1
  | _, _, [], _, _, h => absurd rfl h
  | p, n, [y], h, _, _ => by have := h.1; have := h.2.2.1; simp; omega
  | p, n, y :: z :: l, h, hp, _ => by
    have := inc_len (l := z :: l) h.2.2.2 (by have := h.2.1; omega) (by simp)
    have := h.1
    simp only [List.length_cons] at *
    omega
theorem right5 {e : S_Estate} {items : GS Int} (hn : e.items.l.length ≤ 12) (hL : items.l.length ≤ 9223372036854775807) : ∀ (l : List Int) (i : Nat), items.l.drop i = l → (orders_right_5 e items l i = .x0 ↔ inc (if i = 0 then -1 else items.at ((i : Int) - 1)) (e.items.l.length : Int) l)
  | [], i, _ => by simp [orders_right_5, inc]
  | x :: l, i, hd => by
    have hlt := zv hd
    have hx : items.at (i : Int) = x := at_of hd
    unfold orders_right_5
    simp only [inc]
    cases h1 : zt x 0 (w64 (((e.items.l.length : Nat) : Int) - 1)) with
    | false =>
      simp only [cond_false]
      constructor
      · intro h; cases h
      · intro h
        exfalso
        have : zt x 0 (w64 (((e.items.l.length : Nat) : Int) - 1)) = true := by rw [within_eq, w64_eq (by omega) (by omega)]; simp; omega
        rw [this] at h1; cases h1
    | true =>
      have h1' := within_t h1
      rw [w64_eq (by omega) (by omega)] at h1'
      have ih := right5 (items := items) hn hL l (i + 1) (zA hd)
      rw [if_neg (by omega), show ((i + 1 : Nat) : Int) - 1 = (i : Int) by omega, hx] at ih
      simp only [cond_true]
      by_cases h0 : i = 0
      · subst h0
        have e0 : decide (((0 : Nat) : Int) > 0) = false := rfl
        rw [e0, if_pos rfl]
        simp only [cond_false, ih]
        constructor
        · intro h; exact ⟨by omega, by omega, by omega, h⟩
        · intro h; exact h.2.2.2
      · rw [if_neg h0, decide_eq_true (by omega : ((i : Nat) : Int) > 0)]
        simp only [cond_true]
        rw [w64_eq (by omega) (by omega)]
        cases h2 : decide (items.at (((i : Nat) : Int) - 1) ≥ x) with
        | true =>
          have := of_decide_eq_true h2
          simp only [cond_true]
          constructor
          · intro h; cases h
          · intro h; omega
        | false =>
          have := of_decide_eq_false h2
          simp only [cond_false, ih]
          constructor
          · intro h; exact ⟨by omega, by omega, by omega, h⟩
          · intro h; exact h.2.2.2
theorem right_iff {e : S_Estate} {items : GS Int} (hL : items.l.length ≤ 9223372036854775807) : zp e items = 0 ↔ zo e = 0 ∧ inc (-1) (e.items.l.length : Int) items.l := by
  unfold zp
  cases h : (zo e != 0) with
  | true =>
    have := y0 h
    simp only [cond_true]
    exact ⟨fun h => absurd h this, fun h => h.1⟩
  | false =>
    have h' := zF h
    have hl := check_len h'
    have k := right5 hl.2 hL items.l 0 List.drop_zero
    rw [if_pos rfl] at k
    simp only [cond_false]
    constructor
    · intro h1
      refine ⟨h', k.1 ?_⟩
      revert h1
      cases orders_right_5 e items items.l 0 <;> simp
    · intro h1
      rw [k.2 h1.2]
theorem right_ok {e : S_Estate} {items : GS Int} (hL : items.l.length ≤ 9223372036854775807) (h : zp e items = 0) : 1 ≤ e.items.l.length ∧ e.items.l.length ≤ 12 ∧ items.l.length ≤ 12 := by
  have h' := (right_iff hL).1 h
  have hl := check_len h'.1
  refine ⟨hl.1, hl.2, ?_⟩
  by_cases hn : items.l = []
  · rw [hn]; simp
  · have := inc_len h'.2 (by omega) hn
    omega
theorem right_all {e : S_Estate} {items : GS Int} (hL : items.l.length ≤ 9223372036854775807) (h : zp e items = 0) : ∀ i ∈ items.l, 0 ≤ i ∧ i < ((e.items.l.length : Nat) : Int) := inc_mem ((right_iff hL).1 h).2
end Go.VS
