/- Nothing of a statement is proved in this text alone: it is part 5 of the proof's own tools, an evaluator of the code over deep values, its soundness, and what it makes of this seat's functions. Conditions: none beyond the statement's own. -/
import Derived.Test.YtnifoeahomkdlaaGreatVsZKb4
set_option linter.unusedSimpArgs false
set_option linter.unusedVariables false
namespace Go.VS
open Go Go.Proofs
set_option maxHeartbeats 0
set_option linter.unusedSimpArgs false
set_option linter.unusedVariables false
def orders_Measured_1 (n : Int) : Bool :=
  bif (zt n (-1048576) 1074790400) then
    false
  else
    true

theorem T_orders_Measured_1 (n : Int) : (lim cfg).pure 88 [I n] = some (B (orders_Measured_1 n)) := by
  unfold orders_Measured_1
  cases h1 : (zt n (-1048576) 1074790400) with
  | true =>
    have g1 := within_t h1
    exact zh [.pure (B (zt n (-1048576) 1074790400)), .dec true] (And.intro h1 (And.intro (T_orders_within n (-1048576) 1074790400) trivial)) (by kernel_rfl)
  | false =>
    have g1 := within_f h1
    exact zh [.pure (B (zt n (-1048576) 1074790400)), .dec false] (And.intro h1 (And.intro (T_orders_within n (-1048576) 1074790400) trivial)) (by kernel_rfl)

noncomputable def lp108_2 : Code := subC [1, 0, 1, 0, 0] (bodyC Tryz.f108)

inductive LR_slices_IndexFunc_2 where
  | x0
  | x1 (i2 : Nat) (x2 : Int)
instance : Inhabited LR_slices_IndexFunc_2 := ⟨.x0⟩
def slices_IndexFunc_2 : List Int → Nat → LR_slices_IndexFunc_2
  | [], i2 => .x0
  | x2 :: rest2, i2 =>
    bif (orders_Measured_1 x2) then
      .x1 i2 x2
    else
      slices_IndexFunc_2 rest2 (i2 + 1)
def lr_slices_IndexFunc_2 (s : GS Int) : LR_slices_IndexFunc_2 → Exit × St
  | .x0 => ((.exit 0), ⟨19, [(9, B false), (0, .sl s.nl (s.l.map I) (zsl s.nl 1) none), (1, .fn (.func 88) [] []), (7, I ((s.l.length : Nat) : Int)), (8, I ((s.l.length : Nat) : Int))], [], 0, 0⟩)
  | .x1 i2 x2 => (.ret, ⟨19, [(4, I ((i2 : Nat) : Int)), (17, I ((i2 : Nat) : Int)), (16, B true), (15, I x2), (14, .ptr (I x2)), (13, I ((i2 : Nat) : Int)), (12, .sl s.nl (s.l.map I) (zsl s.nl 1) none), (11, .fn (.func 88) [] []), (5, I ((i2 : Nat) : Int)), (10, I ((i2 : Nat) : Int)), (9, B true), (0, .sl s.nl (s.l.map I) (zsl s.nl 1) none), (1, .fn (.func 88) [] []), (7, I ((s.l.length : Nat) : Int)), (8, I ((i2 : Nat) : Int))], [], 0, 0⟩)
theorem lp_slices_IndexFunc_2 (s : GS Int) : ∀ (rest2 : List Int) (i2 : Nat) (hd2 : s.l.drop i2 = rest2) (hi2 : i2 ≤ s.l.length) (hL2 : s.l.length ≤ 9223372036854775807), (lim cfg).loop 108 lp108_2 ⟨19, [(0, .sl s.nl (s.l.map I) (zsl s.nl 1) none), (1, .fn (.func 88) [] []), (7, I ((s.l.length : Nat) : Int)), (8, I ((i2 : Nat) : Int))], [], 0, 0⟩ = some (lr_slices_IndexFunc_2 s (slices_IndexFunc_2 rest2 i2)) := by
  intro rest2
  induction rest2 with
  | nil =>
    intro i2 hd2 hi2 hL2
    unfold slices_IndexFunc_2
    obtain rfl : i2 = s.l.length := nil_eq hd2 hi2
    exact zH [.dec false] (And.intro (lt_no hd2) trivial) (by kernel_rfl)
  | cons x2 rest2 ih =>
    intro i2 hd2 hi2 hL2
    have hlt2 := zv hd2
    unfold slices_IndexFunc_2
    cases h2 : (orders_Measured_1 x2) with
    | true =>
      exact zH [.dec true, .el (I x2), .pure (B (orders_Measured_1 x2)), .dec true] (And.intro h2 (And.intro (T_orders_Measured_1 x2) (And.intro (el_at (s := s) (f := I) (k := 1) hd2) (And.intro (lt_at hd2) trivial)))) (by kernel_rfl)
    | false =>
      exact po_turn [.dec true, .el (I x2), .pure (B (orders_Measured_1 x2)), .dec false, .rw 18 (I ((i2 + 1 : Nat) : Int))] (And.intro (inc_rw (i := i2) (by have := zv hd2; omega)) (And.intro h2 (And.intro (T_orders_Measured_1 x2) (And.intro (el_at (s := s) (f := I) (k := 1) hd2) (And.intro (lt_at hd2) trivial))))) (ih (i2 + 1) (zA hd2) (zv hd2) (by first | assumption | omega | (with_reducible exact z9) | (simp only [z8] at * <;> omega) | (simp only [z5, z6, z7, GS.some_l, List.length_set, List.length_append, List.length_cons, List.length_nil] at * <;> first | with_reducible assumption | omega) | (simp only [z5, z6, z7, GS.some_l, List.length_set, List.length_append, List.length_cons, List.length_nil, z8] at * <;> first | with_reducible assumption | omega) | (simp at * <;> omega))) (by kernel_rfl)

def slices_IndexFunc (s : GS Int) : Int :=
  match slices_IndexFunc_2 s.l 0 with
  | .x0 =>
    (-1)
  | .x1 i2 x2 =>
    ((i2 : Nat) : Int)

def sd54 (s : GS Int) : St := ⟨19, [(9, B false), (0, .sl s.nl (s.l.map I) (zsl s.nl 1) none), (1, .fn (.func 88) [] []), (7, I ((s.l.length : Nat) : Int)), (8, I ((s.l.length : Nat) : Int))], [], 0, 0⟩

def sd55 (s : GS Int) (i2 : Nat) (x2 : Int) : St := ⟨19, [(4, I ((i2 : Nat) : Int)), (17, I ((i2 : Nat) : Int)), (16, B true), (15, I x2), (14, .ptr (I x2)), (13, I ((i2 : Nat) : Int)), (12, .sl s.nl (s.l.map I) (zsl s.nl 1) none), (11, .fn (.func 88) [] []), (5, I ((i2 : Nat) : Int)), (10, I ((i2 : Nat) : Int)), (9, B true), (0, .sl s.nl (s.l.map I) (zsl s.nl 1) none), (1, .fn (.func 88) [] []), (7, I ((s.l.length : Nat) : Int)), (8, I ((i2 : Nat) : Int))], [], 0, 0⟩

theorem T_slices_IndexFunc (s : GS Int) (hL_s : s.l.length ≤ 9223372036854775807) : (lim cfg).pure 108 [GS.D I 1 s, .fn (.func 88) [] []] = some (I (slices_IndexFunc s)) := by
  unfold slices_IndexFunc
  cases h3 : slices_IndexFunc_2 s.l 0 with
  | x0 =>
    try dsimp only
    exact zh [.rw 7 (I ((s.l.length : Nat) : Int)), .loop (.exit 0) (sd54 s)] (And.intro (po_lr (q := lr_slices_IndexFunc_2 s) (lp_slices_IndexFunc_2 s s.l 0 (List.drop_zero) (Nat.zero_le _) (by first | assumption | omega | (with_reducible exact z9) | (simp only [z8] at * <;> omega) | (simp only [z5, z6, z7, GS.some_l, List.length_set, List.length_append, List.length_cons, List.length_nil] at * <;> first | with_reducible assumption | omega) | (simp only [z5, z6, z7, GS.some_l, List.length_set, List.length_append, List.length_cons, List.length_nil, z8] at * <;> first | with_reducible assumption | omega) | (simp at * <;> omega))) h3) (And.intro (zn I s) trivial)) (by kernel_rfl)
  | x1 i2 x2 =>
    try dsimp only
    exact zh [.rw 7 (I ((s.l.length : Nat) : Int)), .loop .ret (sd55 s i2 x2)] (And.intro (po_lr (q := lr_slices_IndexFunc_2 s) (lp_slices_IndexFunc_2 s s.l 0 (List.drop_zero) (Nat.zero_le _) (by first | assumption | omega | (with_reducible exact z9) | (simp only [z8] at * <;> omega) | (simp only [z5, z6, z7, GS.some_l, List.length_set, List.length_append, List.length_cons, List.length_nil] at * <;> first | with_reducible assumption | omega) | (simp only [z5, z6, z7, GS.some_l, List.length_set, List.length_append, List.length_cons, List.length_nil, z8] at * <;> first | with_reducible assumption | omega) | (simp at * <;> omega))) h3) (And.intro (zn I s) trivial)) (by kernel_rfl)

def zQ (s : GS Int) : Bool :=
  bif decide ((slices_IndexFunc s) ≥ 0) then
    true
  else
    false

theorem T_slices_ContainsFunc (s : GS Int) (hL_s : s.l.length ≤ 9223372036854775807) : (lim cfg).pure 87 [GS.D I 1 s, .fn (.func 88) [] []] = some (B (zQ s)) := by
  unfold zQ
  cases h1 : decide ((slices_IndexFunc s) ≥ 0) with
  | true =>
    have g1 := of_decide_eq_true h1
    exact zh [.pure (I (slices_IndexFunc s)), .dec true] (And.intro h1 (And.intro (T_slices_IndexFunc s (by first | assumption | omega | (with_reducible exact z9) | (simp only [z8] at * <;> omega) | (simp only [z5, z6, z7, GS.some_l, List.length_set, List.length_append, List.length_cons, List.length_nil] at * <;> first | with_reducible assumption | omega) | (simp only [z5, z6, z7, GS.some_l, List.length_set, List.length_append, List.length_cons, List.length_nil, z8] at * <;> first | with_reducible assumption | omega) | (simp at * <;> omega))) trivial)) (by kernel_rfl)
  | false =>
    have g1 := of_decide_eq_false h1
    exact zh [.pure (I (slices_IndexFunc s)), .dec false] (And.intro h1 (And.intro (T_slices_IndexFunc s (by first | assumption | omega | (with_reducible exact z9) | (simp only [z8] at * <;> omega) | (simp only [z5, z6, z7, GS.some_l, List.length_set, List.length_append, List.length_cons, List.length_nil] at * <;> first | with_reducible assumption | omega) | (simp only [z5, z6, z7, GS.some_l, List.length_set, List.length_append, List.length_cons, List.length_nil, z8] at * <;> first | with_reducible assumption | omega) | (simp at * <;> omega))) trivial)) (by kernel_rfl)

noncomputable def lp41_8 : Code := subC [1, 1, 1, 1, 0, 1, 0, 0] (bodyC Tryz.f41)

def sd56 (e : S_Estate) (items : GS Int) (shown : GS Int) (i8 : Nat) (x8 : Int) (v8_0 : List S_Item) : St := ⟨98, [(42, I ((i8 + 1 : Nat) : Int)), (85, I ((i8 + 1 : Nat) : Int)), (84, .lref 2 ((x8).toNat) 4 0), (83, .lref 2 ((x8).toNat) 4 0), (82, .agg [I (((zf ((v8_0.getD ((x8).toNat) default).now) (⟨w64 ((GS.at shown ((i8 : Nat) : Int)) - ((v8_0.getD ((x8).toNat) default).error)), w64 ((GS.at shown ((i8 : Nat) : Int)) + ((v8_0.getD ((x8).toNat) default).error))⟩ : S_Span)).1).lo), I (((zf ((v8_0.getD ((x8).toNat) default).now) (⟨w64 ((GS.at shown ((i8 : Nat) : Int)) - ((v8_0.getD ((x8).toNat) default).error)), w64 ((GS.at shown ((i8 : Nat) : Int)) + ((v8_0.getD ((x8).toNat) default).error))⟩ : S_Span)).1).hi)]), (81, .lref 2 ((x8).toNat) 4 0), (79, B false), (78, B true), (14, B true), (13, .lref 3 0 2 0), (77, B true), (76, .agg [I (((zf ((v8_0.getD ((x8).toNat) default).now) (⟨w64 ((GS.at shown ((i8 : Nat) : Int)) - ((v8_0.getD ((x8).toNat) default).error)), w64 ((GS.at shown ((i8 : Nat) : Int)) + ((v8_0.getD ((x8).toNat) default).error))⟩ : S_Span)).1).lo), I (((zf ((v8_0.getD ((x8).toNat) default).now) (⟨w64 ((GS.at shown ((i8 : Nat) : Int)) - ((v8_0.getD ((x8).toNat) default).error)), w64 ((GS.at shown ((i8 : Nat) : Int)) + ((v8_0.getD ((x8).toNat) default).error))⟩ : S_Span)).1).hi)]), (51, .tup [.agg [I (((zf ((v8_0.getD ((x8).toNat) default).now) (⟨w64 ((GS.at shown ((i8 : Nat) : Int)) - ((v8_0.getD ((x8).toNat) default).error)), w64 ((GS.at shown ((i8 : Nat) : Int)) + ((v8_0.getD ((x8).toNat) default).error))⟩ : S_Span)).1).lo), I (((zf ((v8_0.getD ((x8).toNat) default).now) (⟨w64 ((GS.at shown ((i8 : Nat) : Int)) - ((v8_0.getD ((x8).toNat) default).error)), w64 ((GS.at shown ((i8 : Nat) : Int)) + ((v8_0.getD ((x8).toNat) default).error))⟩ : S_Span)).1).hi)], B ((zf ((v8_0.getD ((x8).toNat) default).now) (⟨w64 ((GS.at shown ((i8 : Nat) : Int)) - ((v8_0.getD ((x8).toNat) default).error)), w64 ((GS.at shown ((i8 : Nat) : Int)) + ((v8_0.getD ((x8).toNat) default).error))⟩ : S_Span)).2)]), (75, .tup [.agg [I (((zf ((v8_0.getD ((x8).toNat) default).now) (⟨w64 ((GS.at shown ((i8 : Nat) : Int)) - ((v8_0.getD ((x8).toNat) default).error)), w64 ((GS.at shown ((i8 : Nat) : Int)) + ((v8_0.getD ((x8).toNat) default).error))⟩ : S_Span)).1).lo), I (((zf ((v8_0.getD ((x8).toNat) default).now) (⟨w64 ((GS.at shown ((i8 : Nat) : Int)) - ((v8_0.getD ((x8).toNat) default).error)), w64 ((GS.at shown ((i8 : Nat) : Int)) + ((v8_0.getD ((x8).toNat) default).error))⟩ : S_Span)).1).hi)], B ((zf ((v8_0.getD ((x8).toNat) default).now) (⟨w64 ((GS.at shown ((i8 : Nat) : Int)) - ((v8_0.getD ((x8).toNat) default).error)), w64 ((GS.at shown ((i8 : Nat) : Int)) + ((v8_0.getD ((x8).toNat) default).error))⟩ : S_Span)).2)]), (74, .agg [I (w64 ((GS.at shown ((i8 : Nat) : Int)) - ((v8_0.getD ((x8).toNat) default).error))), I (w64 ((GS.at shown ((i8 : Nat) : Int)) + ((v8_0.getD ((x8).toNat) default).error)))]), (73, I (w64 ((GS.at shown ((i8 : Nat) : Int)) + ((v8_0.getD ((x8).toNat) default).error)))), (72, I ((v8_0.getD ((x8).toNat) default).error)), (71, .lref 2 ((x8).toNat) 4 3), (70, .lref 2 ((x8).toNat) 4 0), (69, .lref 2 ((x8).toNat) 4 0), (68, I (GS.at shown ((i8 : Nat) : Int))), (67, .ptr (I (GS.at shown ((i8 : Nat) : Int)))), (66, I ((i8 : Nat) : Int)), (65, .sl shown.nl (shown.l.map I) (zsl shown.nl 1) none), (64, I (w64 ((GS.at shown ((i8 : Nat) : Int)) - ((v8_0.getD ((x8).toNat) default).error)))), (63, I ((v8_0.getD ((x8).toNat) default).error)), (62, .lref 2 ((x8).toNat) 4 3), (61, .lref 2 ((x8).toNat) 4 0), (60, .lref 2 ((x8).toNat) 4 0), (59, I (GS.at shown ((i8 : Nat) : Int))), (58, .ptr (I (GS.at shown ((i8 : Nat) : Int)))), (57, I ((i8 : Nat) : Int)), (56, .sl shown.nl (shown.l.map I) (zsl shown.nl 1) none), (55, .agg [I ((v8_0.getD ((x8).toNat) default).now.lo), I ((v8_0.getD ((x8).toNat) default).now.hi)]), (54, .lref 2 ((x8).toNat) 4 0), (53, .lref 2 ((x8).toNat) 4 0), (52, .lref 2 ((x8).toNat) 4 0), (12, .lref 2 ((x8).toNat) 4 0), (50, .lref 2 ((x8).toNat) 4 0), (49, I x8), (48, .lsl 2 0 e.items.l.length 4 none), (47, .lref 1 0 3 0), (11, I x8), (10, I ((i8 : Nat) : Int)), (46, I x8), (45, .ptr (I x8)), (44, I ((i8 : Nat) : Int)), (43, B true), (2, .sl shown.nl (shown.l.map I) (zsl shown.nl 1) none), (6, .lref 0 0 3 0), (9, .lref 1 0 3 0), (40, .sl items.nl (items.l.map I) (zsl items.nl 1) none), (41, I ((items.l.length : Nat) : Int)), (42, I ((i8 : Nat) : Int))], [(0, ⟨[.agg [.sl true [] 0 none, I 0, I 0]], 3, false⟩), (1, ⟨[.agg [.lsl 2 0 e.items.l.length 4 none, I e.whole.lo, I e.whole.hi]], 3, false⟩), (2, ⟨(v8_0.set ((x8).toNat) (⟨((zf ((v8_0.getD ((x8).toNat) default).now) (⟨w64 ((GS.at shown ((i8 : Nat) : Int)) - ((v8_0.getD ((x8).toNat) default).error)), w64 ((GS.at shown ((i8 : Nat) : Int)) + ((v8_0.getD ((x8).toNat) default).error))⟩ : S_Span)).1), (v8_0.getD ((x8).toNat) default).cost, (v8_0.getD ((x8).toNat) default).error⟩ : S_Item)).map S_Item.D, 4, false⟩), (3, ⟨[.agg [I (((zf ((v8_0.getD ((x8).toNat) default).now) (⟨w64 ((GS.at shown ((i8 : Nat) : Int)) - ((v8_0.getD ((x8).toNat) default).error)), w64 ((GS.at shown ((i8 : Nat) : Int)) + ((v8_0.getD ((x8).toNat) default).error))⟩ : S_Span)).1).lo), I (((zf ((v8_0.getD ((x8).toNat) default).now) (⟨w64 ((GS.at shown ((i8 : Nat) : Int)) - ((v8_0.getD ((x8).toNat) default).error)), w64 ((GS.at shown ((i8 : Nat) : Int)) + ((v8_0.getD ((x8).toNat) default).error))⟩ : S_Span)).1).hi)]], 2, false⟩)], 4, 0⟩

inductive LR_orders_Measured_8 where
  | x0 (v8_0 : List S_Item)
  | x1 (i8 : Nat) (x8 : Int) (v8_0 : List S_Item)
instance : Inhabited LR_orders_Measured_8 := ⟨.x0 default⟩
def zC (shown : GS Int) : List Int → Nat → (List S_Item) → LR_orders_Measured_8
  | [], i8, v8_0 => .x0 v8_0
  | x8 :: rest8, i8, v8_0 =>
    bif ((zf ((v8_0.getD ((x8).toNat) default).now) (⟨w64 ((GS.at shown ((i8 : Nat) : Int)) - ((v8_0.getD ((x8).toNat) default).error)), w64 ((GS.at shown ((i8 : Nat) : Int)) + ((v8_0.getD ((x8).toNat) default).error))⟩ : S_Span)).2) then
      zC shown rest8 (i8 + 1) (v8_0.set ((x8).toNat) (⟨((zf ((v8_0.getD ((x8).toNat) default).now) (⟨w64 ((GS.at shown ((i8 : Nat) : Int)) - ((v8_0.getD ((x8).toNat) default).error)), w64 ((GS.at shown ((i8 : Nat) : Int)) + ((v8_0.getD ((x8).toNat) default).error))⟩ : S_Span)).1), (v8_0.getD ((x8).toNat) default).cost, (v8_0.getD ((x8).toNat) default).error⟩ : S_Item))
    else
      .x1 i8 x8 v8_0
def lr_orders_Measured_8 (e : S_Estate) (items : GS Int) (shown : GS Int) : LR_orders_Measured_8 → Exit × St
  | .x0 v8_0 => ((.exit 0), ⟨98, [(43, B false), (2, .sl shown.nl (shown.l.map I) (zsl shown.nl 1) none), (6, .lref 0 0 3 0), (9, .lref 1 0 3 0), (40, .sl items.nl (items.l.map I) (zsl items.nl 1) none), (41, I ((items.l.length : Nat) : Int)), (42, I ((items.l.length : Nat) : Int))], [(0, ⟨[.agg [.sl true [] 0 none, I 0, I 0]], 3, false⟩), (1, ⟨[.agg [.lsl 2 0 e.items.l.length 4 none, I e.whole.lo, I e.whole.hi]], 3, false⟩), (2, ⟨v8_0.map S_Item.D, 4, false⟩)], 3, 0⟩)
  | .x1 i8 x8 v8_0 => (.ret, ⟨98, [(7, I 4), (80, .agg [.sl true [] 0 none, I 0, I 0]), (79, B true), (78, B false), (14, B false), (13, .lref 3 0 2 0), (77, B false), (76, .agg [I (((zf ((v8_0.getD ((x8).toNat) default).now) (⟨w64 ((GS.at shown ((i8 : Nat) : Int)) - ((v8_0.getD ((x8).toNat) default).error)), w64 ((GS.at shown ((i8 : Nat) : Int)) + ((v8_0.getD ((x8).toNat) default).error))⟩ : S_Span)).1).lo), I (((zf ((v8_0.getD ((x8).toNat) default).now) (⟨w64 ((GS.at shown ((i8 : Nat) : Int)) - ((v8_0.getD ((x8).toNat) default).error)), w64 ((GS.at shown ((i8 : Nat) : Int)) + ((v8_0.getD ((x8).toNat) default).error))⟩ : S_Span)).1).hi)]), (51, .tup [.agg [I (((zf ((v8_0.getD ((x8).toNat) default).now) (⟨w64 ((GS.at shown ((i8 : Nat) : Int)) - ((v8_0.getD ((x8).toNat) default).error)), w64 ((GS.at shown ((i8 : Nat) : Int)) + ((v8_0.getD ((x8).toNat) default).error))⟩ : S_Span)).1).lo), I (((zf ((v8_0.getD ((x8).toNat) default).now) (⟨w64 ((GS.at shown ((i8 : Nat) : Int)) - ((v8_0.getD ((x8).toNat) default).error)), w64 ((GS.at shown ((i8 : Nat) : Int)) + ((v8_0.getD ((x8).toNat) default).error))⟩ : S_Span)).1).hi)], B ((zf ((v8_0.getD ((x8).toNat) default).now) (⟨w64 ((GS.at shown ((i8 : Nat) : Int)) - ((v8_0.getD ((x8).toNat) default).error)), w64 ((GS.at shown ((i8 : Nat) : Int)) + ((v8_0.getD ((x8).toNat) default).error))⟩ : S_Span)).2)]), (75, .tup [.agg [I (((zf ((v8_0.getD ((x8).toNat) default).now) (⟨w64 ((GS.at shown ((i8 : Nat) : Int)) - ((v8_0.getD ((x8).toNat) default).error)), w64 ((GS.at shown ((i8 : Nat) : Int)) + ((v8_0.getD ((x8).toNat) default).error))⟩ : S_Span)).1).lo), I (((zf ((v8_0.getD ((x8).toNat) default).now) (⟨w64 ((GS.at shown ((i8 : Nat) : Int)) - ((v8_0.getD ((x8).toNat) default).error)), w64 ((GS.at shown ((i8 : Nat) : Int)) + ((v8_0.getD ((x8).toNat) default).error))⟩ : S_Span)).1).hi)], B ((zf ((v8_0.getD ((x8).toNat) default).now) (⟨w64 ((GS.at shown ((i8 : Nat) : Int)) - ((v8_0.getD ((x8).toNat) default).error)), w64 ((GS.at shown ((i8 : Nat) : Int)) + ((v8_0.getD ((x8).toNat) default).error))⟩ : S_Span)).2)]), (74, .agg [I (w64 ((GS.at shown ((i8 : Nat) : Int)) - ((v8_0.getD ((x8).toNat) default).error))), I (w64 ((GS.at shown ((i8 : Nat) : Int)) + ((v8_0.getD ((x8).toNat) default).error)))]), (73, I (w64 ((GS.at shown ((i8 : Nat) : Int)) + ((v8_0.getD ((x8).toNat) default).error)))), (72, I ((v8_0.getD ((x8).toNat) default).error)), (71, .lref 2 ((x8).toNat) 4 3), (70, .lref 2 ((x8).toNat) 4 0), (69, .lref 2 ((x8).toNat) 4 0), (68, I (GS.at shown ((i8 : Nat) : Int))), (67, .ptr (I (GS.at shown ((i8 : Nat) : Int)))), (66, I ((i8 : Nat) : Int)), (65, .sl shown.nl (shown.l.map I) (zsl shown.nl 1) none), (64, I (w64 ((GS.at shown ((i8 : Nat) : Int)) - ((v8_0.getD ((x8).toNat) default).error)))), (63, I ((v8_0.getD ((x8).toNat) default).error)), (62, .lref 2 ((x8).toNat) 4 3), (61, .lref 2 ((x8).toNat) 4 0), (60, .lref 2 ((x8).toNat) 4 0), (59, I (GS.at shown ((i8 : Nat) : Int))), (58, .ptr (I (GS.at shown ((i8 : Nat) : Int)))), (57, I ((i8 : Nat) : Int)), (56, .sl shown.nl (shown.l.map I) (zsl shown.nl 1) none), (55, .agg [I ((v8_0.getD ((x8).toNat) default).now.lo), I ((v8_0.getD ((x8).toNat) default).now.hi)]), (54, .lref 2 ((x8).toNat) 4 0), (53, .lref 2 ((x8).toNat) 4 0), (52, .lref 2 ((x8).toNat) 4 0), (12, .lref 2 ((x8).toNat) 4 0), (50, .lref 2 ((x8).toNat) 4 0), (49, I x8), (48, .lsl 2 0 e.items.l.length 4 none), (47, .lref 1 0 3 0), (11, I x8), (10, I ((i8 : Nat) : Int)), (46, I x8), (45, .ptr (I x8)), (44, I ((i8 : Nat) : Int)), (43, B true), (2, .sl shown.nl (shown.l.map I) (zsl shown.nl 1) none), (6, .lref 0 0 3 0), (9, .lref 1 0 3 0), (40, .sl items.nl (items.l.map I) (zsl items.nl 1) none), (41, I ((items.l.length : Nat) : Int)), (42, I ((i8 : Nat) : Int))], [(0, ⟨[.agg [.sl true [] 0 none, I 0, I 0]], 3, false⟩), (1, ⟨[.agg [.lsl 2 0 e.items.l.length 4 none, I e.whole.lo, I e.whole.hi]], 3, false⟩), (2, ⟨v8_0.map S_Item.D, 4, false⟩), (3, ⟨[.agg [I (((zf ((v8_0.getD ((x8).toNat) default).now) (⟨w64 ((GS.at shown ((i8 : Nat) : Int)) - ((v8_0.getD ((x8).toNat) default).error)), w64 ((GS.at shown ((i8 : Nat) : Int)) + ((v8_0.getD ((x8).toNat) default).error))⟩ : S_Span)).1).lo), I (((zf ((v8_0.getD ((x8).toNat) default).now) (⟨w64 ((GS.at shown ((i8 : Nat) : Int)) - ((v8_0.getD ((x8).toNat) default).error)), w64 ((GS.at shown ((i8 : Nat) : Int)) + ((v8_0.getD ((x8).toNat) default).error))⟩ : S_Span)).1).hi)]], 2, false⟩)], 4, 0⟩)
def iv_orders_Measured_8 (e : S_Estate) (items : GS Int) (shown : GS Int) : LR_orders_Measured_8 → Prop
  | .x0 v8_0 => (v8_0.length = e.items.l.length)
  | .x1 i8 x8 v8_0 => (v8_0.length = e.items.l.length)
theorem lp_orders_Measured_8 (e : S_Estate) (items : GS Int) (shown : GS Int) : ∀ (rest8 : List Int) (i8 : Nat) (v8_0 : List S_Item) (hd8 : items.l.drop i8 = rest8) (hi8 : i8 ≤ items.l.length) (hall : ∀ i ∈ items.l, 0 ≤ i ∧ i < ((e.items.l.length : Nat) : Int)) (hls : shown.l.length = items.l.length) (hle : e.items.l.length ≤ 12) (hl8_v8_0 : v8_0.length = e.items.l.length) (hL8 : items.l.length ≤ 9223372036854775807), (lim cfg).loop 41 lp41_8 ⟨98, [(2, .sl shown.nl (shown.l.map I) (zsl shown.nl 1) none), (6, .lref 0 0 3 0), (9, .lref 1 0 3 0), (40, .sl items.nl (items.l.map I) (zsl items.nl 1) none), (41, I ((items.l.length : Nat) : Int)), (42, I ((i8 : Nat) : Int))], [(0, ⟨[.agg [.sl true [] 0 none, I 0, I 0]], 3, false⟩), (1, ⟨[.agg [.lsl 2 0 e.items.l.length 4 none, I e.whole.lo, I e.whole.hi]], 3, false⟩), (2, ⟨v8_0.map S_Item.D, 4, false⟩)], 3, 0⟩ = some (lr_orders_Measured_8 e items shown (zC shown rest8 i8 v8_0)) := by
  intro rest8
  induction rest8 with
  | nil =>
    intro i8 v8_0 hd8 hi8 hall hls hle hl8_v8_0 hL8
    unfold zC
    obtain rfl : i8 = items.l.length := nil_eq hd8 hi8
    exact zH [.dec false] (And.intro (lt_no hd8) trivial) (by kernel_rfl)
  | cons x8 rest8 ih =>
    intro i8 v8_0 hd8 hi8 hall hls hle hl8_v8_0 hL8
    have hlt8 := zv hd8
    have hbx := hall x8 (mem_drop hd8)
    unfold zC
    cases h5 : ((zf ((v8_0.getD ((x8).toNat) default).now) (⟨w64 ((GS.at shown ((i8 : Nat) : Int)) - ((v8_0.getD ((x8).toNat) default).error)), w64 ((GS.at shown ((i8 : Nat) : Int)) + ((v8_0.getD ((x8).toNat) default).error))⟩ : S_Span)).2) with
    | true =>
      exact po_turn' (ks := [2, 6, 9, 40, 41, 42]) (st' := (sd56 e items shown i8 x8 v8_0)) [.dec true, .el (I x8), .op (some 50) ⟨.lref 2 ((x8).toNat) 4 0, [], [], 3⟩, .op (some 55) ⟨.agg [I ((v8_0.getD ((x8).toNat) default).now.lo), I ((v8_0.getD ((x8).toNat) default).now.hi)], [], [2], 3⟩, .el (I (GS.at shown ((i8 : Nat) : Int))), .op (some 63) ⟨I ((v8_0.getD ((x8).toNat) default).error), [], [2], 3⟩, .el (I (GS.at shown ((i8 : Nat) : Int))), .op (some 72) ⟨I ((v8_0.getD ((x8).toNat) default).error), [], [2], 3⟩, .pure (.tup [.agg [I (((zf ((v8_0.getD ((x8).toNat) default).now) (⟨w64 ((GS.at shown ((i8 : Nat) : Int)) - ((v8_0.getD ((x8).toNat) default).error)), w64 ((GS.at shown ((i8 : Nat) : Int)) + ((v8_0.getD ((x8).toNat) default).error))⟩ : S_Span)).1).lo), I (((zf ((v8_0.getD ((x8).toNat) default).now) (⟨w64 ((GS.at shown ((i8 : Nat) : Int)) - ((v8_0.getD ((x8).toNat) default).error)), w64 ((GS.at shown ((i8 : Nat) : Int)) + ((v8_0.getD ((x8).toNat) default).error))⟩ : S_Span)).1).hi)], B ((zf ((v8_0.getD ((x8).toNat) default).now) (⟨w64 ((GS.at shown ((i8 : Nat) : Int)) - ((v8_0.getD ((x8).toNat) default).error)), w64 ((GS.at shown ((i8 : Nat) : Int)) + ((v8_0.getD ((x8).toNat) default).error))⟩ : S_Span)).2)]), .dec true, .stS 2 ⟨.tup [], [(2, some ⟨(v8_0.set ((x8).toNat) (⟨((zf ((v8_0.getD ((x8).toNat) default).now) (⟨w64 ((GS.at shown ((i8 : Nat) : Int)) - ((v8_0.getD ((x8).toNat) default).error)), w64 ((GS.at shown ((i8 : Nat) : Int)) + ((v8_0.getD ((x8).toNat) default).error))⟩ : S_Span)).1), (v8_0.getD ((x8).toNat) default).cost, (v8_0.getD ((x8).toNat) default).error⟩ : S_Item)).map S_Item.D, 4, false⟩)], [2], 4⟩, .rw 85 (I ((i8 + 1 : Nat) : Int))] (And.intro (inc_rw (i := i8) (by have := zv hd8; omega)) (And.intro (store_row (C := cfg) (objs := [(0, ⟨[.agg [.sl true [] 0 none, I 0, I 0]], 3, false⟩), (1, ⟨[.agg [.lsl 2 0 e.items.l.length 4 none, I e.whole.lo, I e.whole.hi]], 3, false⟩), (2, ⟨v8_0.map S_Item.D, 4, false⟩), (3, ⟨[.agg [I (((zf ((v8_0.getD ((x8).toNat) default).now) (⟨w64 ((GS.at shown ((i8 : Nat) : Int)) - ((v8_0.getD ((x8).toNat) default).error)), w64 ((GS.at shown ((i8 : Nat) : Int)) + ((v8_0.getD ((x8).toNat) default).error))⟩ : S_Span)).1).lo), I (((zf ((v8_0.getD ((x8).toNat) default).now) (⟨w64 ((GS.at shown ((i8 : Nat) : Int)) - ((v8_0.getD ((x8).toNat) default).error)), w64 ((GS.at shown ((i8 : Nat) : Int)) + ((v8_0.getD ((x8).toNat) default).error))⟩ : S_Span)).1).hi)]], 2, false⟩)]) (nxt := 4) (t := 24) (ty := ty24) (o := 2) (n := (x8).toNat) (sz := 4) (sub := 0) (els := v8_0.map S_Item.D) (els' := (v8_0.set ((x8).toNat) (⟨((zf ((v8_0.getD ((x8).toNat) default).now) (⟨w64 ((GS.at shown ((i8 : Nat) : Int)) - ((v8_0.getD ((x8).toNat) default).error)), w64 ((GS.at shown ((i8 : Nat) : Int)) + ((v8_0.getD ((x8).toNat) default).error))⟩ : S_Span)).1), (v8_0.getD ((x8).toNat) default).cost, (v8_0.getD ((x8).toNat) default).error⟩ : S_Item)).map S_Item.D) (e := S_Item.D (v8_0.getD ((x8).toNat) default)) (e' := S_Item.D (⟨((zf ((v8_0.getD ((x8).toNat) default).now) (⟨w64 ((GS.at shown ((i8 : Nat) : Int)) - ((v8_0.getD ((x8).toNat) default).error)), w64 ((GS.at shown ((i8 : Nat) : Int)) + ((v8_0.getD ((x8).toNat) default).error))⟩ : S_Span)).1), (v8_0.getD ((x8).toNat) default).cost, (v8_0.getD ((x8).toNat) default).error⟩ : S_Item)) (v := .agg [I (((zf ((v8_0.getD ((x8).toNat) default).now) (⟨w64 ((GS.at shown ((i8 : Nat) : Int)) - ((v8_0.getD ((x8).toNat) default).error)), w64 ((GS.at shown ((i8 : Nat) : Int)) + ((v8_0.getD ((x8).toNat) default).error))⟩ : S_Span)).1).lo), I (((zf ((v8_0.getD ((x8).toNat) default).now) (⟨w64 ((GS.at shown ((i8 : Nat) : Int)) - ((v8_0.getD ((x8).toNat) default).error)), w64 ((GS.at shown ((i8 : Nat) : Int)) + ((v8_0.getD ((x8).toNat) default).error))⟩ : S_Span)).1).hi)]) (by kernel_rfl) (by kernel_rfl) (row_get (f := S_Item.D) (by first | assumption | omega | (with_reducible exact z9) | (simp only [z8] at * <;> omega) | (simp only [z5, z6, z7, GS.some_l, List.length_set, List.length_append, List.length_cons, List.length_nil] at * <;> first | with_reducible assumption | omega) | (simp only [z5, z6, z7, GS.some_l, List.length_set, List.length_append, List.length_cons, List.length_nil, z8] at * <;> first | with_reducible assumption | omega) | (simp at * <;> omega))) rfl (by kernel_rfl) rfl (by kernel_rfl) (row_set (f := S_Item.D))) (And.intro h5 (And.intro (T_orders_common ((v8_0.getD ((x8).toNat) default).now) (⟨w64 ((GS.at shown ((i8 : Nat) : Int)) - ((v8_0.getD ((x8).toNat) default).error)), w64 ((GS.at shown ((i8 : Nat) : Int)) + ((v8_0.getD ((x8).toNat) default).error))⟩ : S_Span)) (And.intro (load_row (C := cfg) (objs := [(0, ⟨[.agg [.sl true [] 0 none, I 0, I 0]], 3, false⟩), (1, ⟨[.agg [.lsl 2 0 e.items.l.length 4 none, I e.whole.lo, I e.whole.hi]], 3, false⟩), (2, ⟨v8_0.map S_Item.D, 4, false⟩)]) (nxt := 3) (t := 3) (ty := ty3) (o := 2) (n := (x8).toNat) (sz := 4) (sub := 3) (ob := ⟨v8_0.map S_Item.D, 4, false⟩) (e := S_Item.D (v8_0.getD ((x8).toNat) default)) (d := I ((v8_0.getD ((x8).toNat) default).error)) (by kernel_rfl) (by kernel_rfl) rfl (row_get (f := S_Item.D) (by first | assumption | omega | (with_reducible exact z9) | (simp only [z8] at * <;> omega) | (simp only [z5, z6, z7, GS.some_l, List.length_set, List.length_append, List.length_cons, List.length_nil] at * <;> first | with_reducible assumption | omega) | (simp only [z5, z6, z7, GS.some_l, List.length_set, List.length_append, List.length_cons, List.length_nil, z8] at * <;> first | with_reducible assumption | omega) | (simp at * <;> omega))) (by kernel_rfl)) (And.intro (el_in (s := shown) (f := I) (k := 1) (i := ((i8 : Nat) : Int)) (by first | assumption | omega | (with_reducible exact z9) | (simp only [z8] at * <;> omega) | (simp only [z5, z6, z7, GS.some_l, List.length_set, List.length_append, List.length_cons, List.length_nil] at * <;> first | with_reducible assumption | omega) | (simp only [z5, z6, z7, GS.some_l, List.length_set, List.length_append, List.length_cons, List.length_nil, z8] at * <;> first | with_reducible assumption | omega) | (simp at * <;> omega)) (by first | assumption | omega | (with_reducible exact z9) | (simp only [z8] at * <;> omega) | (simp only [z5, z6, z7, GS.some_l, List.length_set, List.length_append, List.length_cons, List.length_nil] at * <;> first | with_reducible assumption | omega) | (simp only [z5, z6, z7, GS.some_l, List.length_set, List.length_append, List.length_cons, List.length_nil, z8] at * <;> first | with_reducible assumption | omega) | (simp at * <;> omega))) (And.intro (load_row (C := cfg) (objs := [(0, ⟨[.agg [.sl true [] 0 none, I 0, I 0]], 3, false⟩), (1, ⟨[.agg [.lsl 2 0 e.items.l.length 4 none, I e.whole.lo, I e.whole.hi]], 3, false⟩), (2, ⟨v8_0.map S_Item.D, 4, false⟩)]) (nxt := 3) (t := 3) (ty := ty3) (o := 2) (n := (x8).toNat) (sz := 4) (sub := 3) (ob := ⟨v8_0.map S_Item.D, 4, false⟩) (e := S_Item.D (v8_0.getD ((x8).toNat) default)) (d := I ((v8_0.getD ((x8).toNat) default).error)) (by kernel_rfl) (by kernel_rfl) rfl (row_get (f := S_Item.D) (by first | assumption | omega | (with_reducible exact z9) | (simp only [z8] at * <;> omega) | (simp only [z5, z6, z7, GS.some_l, List.length_set, List.length_append, List.length_cons, List.length_nil] at * <;> first | with_reducible assumption | omega) | (simp only [z5, z6, z7, GS.some_l, List.length_set, List.length_append, List.length_cons, List.length_nil, z8] at * <;> first | with_reducible assumption | omega) | (simp at * <;> omega))) (by kernel_rfl)) (And.intro (el_in (s := shown) (f := I) (k := 1) (i := ((i8 : Nat) : Int)) (by first | assumption | omega | (with_reducible exact z9) | (simp only [z8] at * <;> omega) | (simp only [z5, z6, z7, GS.some_l, List.length_set, List.length_append, List.length_cons, List.length_nil] at * <;> first | with_reducible assumption | omega) | (simp only [z5, z6, z7, GS.some_l, List.length_set, List.length_append, List.length_cons, List.length_nil, z8] at * <;> first | with_reducible assumption | omega) | (simp at * <;> omega)) (by first | assumption | omega | (with_reducible exact z9) | (simp only [z8] at * <;> omega) | (simp only [z5, z6, z7, GS.some_l, List.length_set, List.length_append, List.length_cons, List.length_nil] at * <;> first | with_reducible assumption | omega) | (simp only [z5, z6, z7, GS.some_l, List.length_set, List.length_append, List.length_cons, List.length_nil, z8] at * <;> first | with_reducible assumption | omega) | (simp at * <;> omega))) (And.intro (load_row (C := cfg) (objs := [(0, ⟨[.agg [.sl true [] 0 none, I 0, I 0]], 3, false⟩), (1, ⟨[.agg [.lsl 2 0 e.items.l.length 4 none, I e.whole.lo, I e.whole.hi]], 3, false⟩), (2, ⟨v8_0.map S_Item.D, 4, false⟩)]) (nxt := 3) (t := 24) (ty := ty24) (o := 2) (n := (x8).toNat) (sz := 4) (sub := 0) (ob := ⟨v8_0.map S_Item.D, 4, false⟩) (e := S_Item.D (v8_0.getD ((x8).toNat) default)) (d := .agg [I ((v8_0.getD ((x8).toNat) default).now.lo), I ((v8_0.getD ((x8).toNat) default).now.hi)]) (by kernel_rfl) (by kernel_rfl) rfl (row_get (f := S_Item.D) (by first | assumption | omega | (with_reducible exact z9) | (simp only [z8] at * <;> omega) | (simp only [z5, z6, z7, GS.some_l, List.length_set, List.length_append, List.length_cons, List.length_nil] at * <;> first | with_reducible assumption | omega) | (simp only [z5, z6, z7, GS.some_l, List.length_set, List.length_append, List.length_cons, List.length_nil, z8] at * <;> first | with_reducible assumption | omega) | (simp at * <;> omega))) (by kernel_rfl)) (And.intro (idx_row (C := cfg) (nxt := 3) (t := 22) (ty := ty22) (te := ty69) (e := 69) (o := 2) (len := e.items.l.length) (sz := 4) (cap := none) (i := x8) (by kernel_rfl) rfl (by kernel_rfl) rfl (by first | assumption | omega | (with_reducible exact z9) | (simp only [z8] at * <;> omega) | (simp only [z5, z6, z7, GS.some_l, List.length_set, List.length_append, List.length_cons, List.length_nil] at * <;> first | with_reducible assumption | omega) | (simp only [z5, z6, z7, GS.some_l, List.length_set, List.length_append, List.length_cons, List.length_nil, z8] at * <;> first | with_reducible assumption | omega) | (simp at * <;> omega)) (by first | assumption | omega | (with_reducible exact z9) | (simp only [z8] at * <;> omega) | (simp only [z5, z6, z7, GS.some_l, List.length_set, List.length_append, List.length_cons, List.length_nil] at * <;> first | with_reducible assumption | omega) | (simp only [z5, z6, z7, GS.some_l, List.length_set, List.length_append, List.length_cons, List.length_nil, z8] at * <;> first | with_reducible assumption | omega) | (simp at * <;> omega))) (And.intro (el_at (s := items) (f := I) (k := 1) hd8) (And.intro (lt_at hd8) trivial)))))))))))) (by kernel_rfl) (by (simp only [sd56, go_sem, Nat.reduceAdd, Nat.reduceEqDiff, Nat.reduceLT, Nat.reduceLeDiff, bI2, zN.idsL, zN.renL, zN.snapAll, zi.idsL, zi.renL, zi.snapAll]) <;> rfl) (ih (i8 + 1) (v8_0.set ((x8).toNat) (⟨((zf ((v8_0.getD ((x8).toNat) default).now) (⟨w64 ((GS.at shown ((i8 : Nat) : Int)) - ((v8_0.getD ((x8).toNat) default).error)), w64 ((GS.at shown ((i8 : Nat) : Int)) + ((v8_0.getD ((x8).toNat) default).error))⟩ : S_Span)).1), (v8_0.getD ((x8).toNat) default).cost, (v8_0.getD ((x8).toNat) default).error⟩ : S_Item)) (zA hd8) (zv hd8) (by first | assumption | omega | (with_reducible exact z9) | (simp only [z8] at * <;> omega) | (simp only [z5, z6, z7, GS.some_l, List.length_set, List.length_append, List.length_cons, List.length_nil] at * <;> first | with_reducible assumption | omega) | (simp only [z5, z6, z7, GS.some_l, List.length_set, List.length_append, List.length_cons, List.length_nil, z8] at * <;> first | with_reducible assumption | omega) | (simp at * <;> omega)) (by first | assumption | omega | (with_reducible exact z9) | (simp only [z8] at * <;> omega) | (simp only [z5, z6, z7, GS.some_l, List.length_set, List.length_append, List.length_cons, List.length_nil] at * <;> first | with_reducible assumption | omega) | (simp only [z5, z6, z7, GS.some_l, List.length_set, List.length_append, List.length_cons, List.length_nil, z8] at * <;> first | with_reducible assumption | omega) | (simp at * <;> omega)) (by first | assumption | omega | (with_reducible exact z9) | (simp only [z8] at * <;> omega) | (simp only [z5, z6, z7, GS.some_l, List.length_set, List.length_append, List.length_cons, List.length_nil] at * <;> first | with_reducible assumption | omega) | (simp only [z5, z6, z7, GS.some_l, List.length_set, List.length_append, List.length_cons, List.length_nil, z8] at * <;> first | with_reducible assumption | omega) | (simp at * <;> omega)) (by first | assumption | omega | (with_reducible exact z9) | (simp only [z8] at * <;> omega) | (simp only [z5, z6, z7, GS.some_l, List.length_set, List.length_append, List.length_cons, List.length_nil] at * <;> first | with_reducible assumption | omega) | (simp only [z5, z6, z7, GS.some_l, List.length_set, List.length_append, List.length_cons, List.length_nil, z8] at * <;> first | with_reducible assumption | omega) | (simp at * <;> omega)) (by first | assumption | omega | (with_reducible exact z9) | (simp only [z8] at * <;> omega) | (simp only [z5, z6, z7, GS.some_l, List.length_set, List.length_append, List.length_cons, List.length_nil] at * <;> first | with_reducible assumption | omega) | (simp only [z5, z6, z7, GS.some_l, List.length_set, List.length_append, List.length_cons, List.length_nil, z8] at * <;> first | with_reducible assumption | omega) | (simp at * <;> omega))) (by kernel_rfl)
    | false =>
      exact zH [.dec true, .el (I x8), .op (some 50) ⟨.lref 2 ((x8).toNat) 4 0, [], [], 3⟩, .op (some 55) ⟨.agg [I ((v8_0.getD ((x8).toNat) default).now.lo), I ((v8_0.getD ((x8).toNat) default).now.hi)], [], [2], 3⟩, .el (I (GS.at shown ((i8 : Nat) : Int))), .op (some 63) ⟨I ((v8_0.getD ((x8).toNat) default).error), [], [2], 3⟩, .el (I (GS.at shown ((i8 : Nat) : Int))), .op (some 72) ⟨I ((v8_0.getD ((x8).toNat) default).error), [], [2], 3⟩, .pure (.tup [.agg [I (((zf ((v8_0.getD ((x8).toNat) default).now) (⟨w64 ((GS.at shown ((i8 : Nat) : Int)) - ((v8_0.getD ((x8).toNat) default).error)), w64 ((GS.at shown ((i8 : Nat) : Int)) + ((v8_0.getD ((x8).toNat) default).error))⟩ : S_Span)).1).lo), I (((zf ((v8_0.getD ((x8).toNat) default).now) (⟨w64 ((GS.at shown ((i8 : Nat) : Int)) - ((v8_0.getD ((x8).toNat) default).error)), w64 ((GS.at shown ((i8 : Nat) : Int)) + ((v8_0.getD ((x8).toNat) default).error))⟩ : S_Span)).1).hi)], B ((zf ((v8_0.getD ((x8).toNat) default).now) (⟨w64 ((GS.at shown ((i8 : Nat) : Int)) - ((v8_0.getD ((x8).toNat) default).error)), w64 ((GS.at shown ((i8 : Nat) : Int)) + ((v8_0.getD ((x8).toNat) default).error))⟩ : S_Span)).2)]), .dec false] (And.intro h5 (And.intro (T_orders_common ((v8_0.getD ((x8).toNat) default).now) (⟨w64 ((GS.at shown ((i8 : Nat) : Int)) - ((v8_0.getD ((x8).toNat) default).error)), w64 ((GS.at shown ((i8 : Nat) : Int)) + ((v8_0.getD ((x8).toNat) default).error))⟩ : S_Span)) (And.intro (load_row (C := cfg) (objs := [(0, ⟨[.agg [.sl true [] 0 none, I 0, I 0]], 3, false⟩), (1, ⟨[.agg [.lsl 2 0 e.items.l.length 4 none, I e.whole.lo, I e.whole.hi]], 3, false⟩), (2, ⟨v8_0.map S_Item.D, 4, false⟩)]) (nxt := 3) (t := 3) (ty := ty3) (o := 2) (n := (x8).toNat) (sz := 4) (sub := 3) (ob := ⟨v8_0.map S_Item.D, 4, false⟩) (e := S_Item.D (v8_0.getD ((x8).toNat) default)) (d := I ((v8_0.getD ((x8).toNat) default).error)) (by kernel_rfl) (by kernel_rfl) rfl (row_get (f := S_Item.D) (by first | assumption | omega | (with_reducible exact z9) | (simp only [z8] at * <;> omega) | (simp only [z5, z6, z7, GS.some_l, List.length_set, List.length_append, List.length_cons, List.length_nil] at * <;> first | with_reducible assumption | omega) | (simp only [z5, z6, z7, GS.some_l, List.length_set, List.length_append, List.length_cons, List.length_nil, z8] at * <;> first | with_reducible assumption | omega) | (simp at * <;> omega))) (by kernel_rfl)) (And.intro (el_in (s := shown) (f := I) (k := 1) (i := ((i8 : Nat) : Int)) (by first | assumption | omega | (with_reducible exact z9) | (simp only [z8] at * <;> omega) | (simp only [z5, z6, z7, GS.some_l, List.length_set, List.length_append, List.length_cons, List.length_nil] at * <;> first | with_reducible assumption | omega) | (simp only [z5, z6, z7, GS.some_l, List.length_set, List.length_append, List.length_cons, List.length_nil, z8] at * <;> first | with_reducible assumption | omega) | (simp at * <;> omega)) (by first | assumption | omega | (with_reducible exact z9) | (simp only [z8] at * <;> omega) | (simp only [z5, z6, z7, GS.some_l, List.length_set, List.length_append, List.length_cons, List.length_nil] at * <;> first | with_reducible assumption | omega) | (simp only [z5, z6, z7, GS.some_l, List.length_set, List.length_append, List.length_cons, List.length_nil, z8] at * <;> first | with_reducible assumption | omega) | (simp at * <;> omega))) (And.intro (load_row (C := cfg) (objs := [(0, ⟨[.agg [.sl true [] 0 none, I 0, I 0]], 3, false⟩), (1, ⟨[.agg [.lsl 2 0 e.items.l.length 4 none, I e.whole.lo, I e.whole.hi]], 3, false⟩), (2, ⟨v8_0.map S_Item.D, 4, false⟩)]) (nxt := 3) (t := 3) (ty := ty3) (o := 2) (n := (x8).toNat) (sz := 4) (sub := 3) (ob := ⟨v8_0.map S_Item.D, 4, false⟩) (e := S_Item.D (v8_0.getD ((x8).toNat) default)) (d := I ((v8_0.getD ((x8).toNat) default).error)) (by kernel_rfl) (by kernel_rfl) rfl (row_get (f := S_Item.D) (by first | assumption | omega | (with_reducible exact z9) | (simp only [z8] at * <;> omega) | (simp only [z5, z6, z7, GS.some_l, List.length_set, List.length_append, List.length_cons, List.length_nil] at * <;> first | with_reducible assumption | omega) | (simp only [z5, z6, z7, GS.some_l, List.length_set, List.length_append, List.length_cons, List.length_nil, z8] at * <;> first | with_reducible assumption | omega) | (simp at * <;> omega))) (by kernel_rfl)) (And.intro (el_in (s := shown) (f := I) (k := 1) (i := ((i8 : Nat) : Int)) (by first | assumption | omega | (with_reducible exact z9) | (simp only [z8] at * <;> omega) | (simp only [z5, z6, z7, GS.some_l, List.length_set, List.length_append, List.length_cons, List.length_nil] at * <;> first | with_reducible assumption | omega) | (simp only [z5, z6, z7, GS.some_l, List.length_set, List.length_append, List.length_cons, List.length_nil, z8] at * <;> first | with_reducible assumption | omega) | (simp at * <;> omega)) (by first | assumption | omega | (with_reducible exact z9) | (simp only [z8] at * <;> omega) | (simp only [z5, z6, z7, GS.some_l, List.length_set, List.length_append, List.length_cons, List.length_nil] at * <;> first | with_reducible assumption | omega) | (simp only [z5, z6, z7, GS.some_l, List.length_set, List.length_append, List.length_cons, List.length_nil, z8] at * <;> first | with_reducible assumption | omega) | (simp at * <;> omega))) (And.intro (load_row (C := cfg) (objs := [(0, ⟨[.agg [.sl true [] 0 none, I 0, I 0]], 3, false⟩), (1, ⟨[.agg [.lsl 2 0 e.items.l.length 4 none, I e.whole.lo, I e.whole.hi]], 3, false⟩), (2, ⟨v8_0.map S_Item.D, 4, false⟩)]) (nxt := 3) (t := 24) (ty := ty24) (o := 2) (n := (x8).toNat) (sz := 4) (sub := 0) (ob := ⟨v8_0.map S_Item.D, 4, false⟩) (e := S_Item.D (v8_0.getD ((x8).toNat) default)) (d := .agg [I ((v8_0.getD ((x8).toNat) default).now.lo), I ((v8_0.getD ((x8).toNat) default).now.hi)]) (by kernel_rfl) (by kernel_rfl) rfl (row_get (f := S_Item.D) (by first | assumption | omega | (with_reducible exact z9) | (simp only [z8] at * <;> omega) | (simp only [z5, z6, z7, GS.some_l, List.length_set, List.length_append, List.length_cons, List.length_nil] at * <;> first | with_reducible assumption | omega) | (simp only [z5, z6, z7, GS.some_l, List.length_set, List.length_append, List.length_cons, List.length_nil, z8] at * <;> first | with_reducible assumption | omega) | (simp at * <;> omega))) (by kernel_rfl)) (And.intro (idx_row (C := cfg) (nxt := 3) (t := 22) (ty := ty22) (te := ty69) (e := 69) (o := 2) (len := e.items.l.length) (sz := 4) (cap := none) (i := x8) (by kernel_rfl) rfl (by kernel_rfl) rfl (by first | assumption | omega | (with_reducible exact z9) | (simp only [z8] at * <;> omega) | (simp only [z5, z6, z7, GS.some_l, List.length_set, List.length_append, List.length_cons, List.length_nil] at * <;> first | with_reducible assumption | omega) | (simp only [z5, z6, z7, GS.some_l, List.length_set, List.length_append, List.length_cons, List.length_nil, z8] at * <;> first | with_reducible assumption | omega) | (simp at * <;> omega)) (by first | assumption | omega | (with_reducible exact z9) | (simp only [z8] at * <;> omega) | (simp only [z5, z6, z7, GS.some_l, List.length_set, List.length_append, List.length_cons, List.length_nil] at * <;> first | with_reducible assumption | omega) | (simp only [z5, z6, z7, GS.some_l, List.length_set, List.length_append, List.length_cons, List.length_nil, z8] at * <;> first | with_reducible assumption | omega) | (simp at * <;> omega))) (And.intro (el_at (s := items) (f := I) (k := 1) hd8) (And.intro (lt_at hd8) trivial)))))))))) (by kernel_rfl)
theorem ivt_orders_Measured_8 (e : S_Estate) (items : GS Int) (shown : GS Int) : ∀ (rest8 : List Int) (i8 : Nat) (v8_0 : List S_Item) (hd8 : items.l.drop i8 = rest8) (hi8 : i8 ≤ items.l.length) (hall : ∀ i ∈ items.l, 0 ≤ i ∧ i < ((e.items.l.length : Nat) : Int)) (hls : shown.l.length = items.l.length) (hle : e.items.l.length ≤ 12) (hl8_v8_0 : v8_0.length = e.items.l.length) (hL8 : items.l.length ≤ 9223372036854775807), iv_orders_Measured_8 e items shown (zC shown rest8 i8 v8_0) := by
  intro rest8
  induction rest8 with
  | nil =>
    intro i8 v8_0 hd8 hi8 hall hls hle hl8_v8_0 hL8
    unfold zC
    obtain rfl : i8 = items.l.length := nil_eq hd8 hi8
    exact hl8_v8_0
  | cons x8 rest8 ih =>
    intro i8 v8_0 hd8 hi8 hall hls hle hl8_v8_0 hL8
    have hlt8 := zv hd8
    have hbx := hall x8 (mem_drop hd8)
    unfold zC
    cases h5 : ((zf ((v8_0.getD ((x8).toNat) default).now) (⟨w64 ((GS.at shown ((i8 : Nat) : Int)) - ((v8_0.getD ((x8).toNat) default).error)), w64 ((GS.at shown ((i8 : Nat) : Int)) + ((v8_0.getD ((x8).toNat) default).error))⟩ : S_Span)).2) with
    | true =>
      exact ih (i8 + 1) (v8_0.set ((x8).toNat) (⟨((zf ((v8_0.getD ((x8).toNat) default).now) (⟨w64 ((GS.at shown ((i8 : Nat) : Int)) - ((v8_0.getD ((x8).toNat) default).error)), w64 ((GS.at shown ((i8 : Nat) : Int)) + ((v8_0.getD ((x8).toNat) default).error))⟩ : S_Span)).1), (v8_0.getD ((x8).toNat) default).cost, (v8_0.getD ((x8).toNat) default).error⟩ : S_Item)) (zA hd8) (zv hd8) (by first | assumption | omega | (with_reducible exact z9) | (simp only [z8] at * <;> omega) | (simp only [z5, z6, z7, GS.some_l, List.length_set, List.length_append, List.length_cons, List.length_nil] at * <;> first | with_reducible assumption | omega) | (simp only [z5, z6, z7, GS.some_l, List.length_set, List.length_append, List.length_cons, List.length_nil, z8] at * <;> first | with_reducible assumption | omega) | (simp at * <;> omega)) (by first | assumption | omega | (with_reducible exact z9) | (simp only [z8] at * <;> omega) | (simp only [z5, z6, z7, GS.some_l, List.length_set, List.length_append, List.length_cons, List.length_nil] at * <;> first | with_reducible assumption | omega) | (simp only [z5, z6, z7, GS.some_l, List.length_set, List.length_append, List.length_cons, List.length_nil, z8] at * <;> first | with_reducible assumption | omega) | (simp at * <;> omega)) (by first | assumption | omega | (with_reducible exact z9) | (simp only [z8] at * <;> omega) | (simp only [z5, z6, z7, GS.some_l, List.length_set, List.length_append, List.length_cons, List.length_nil] at * <;> first | with_reducible assumption | omega) | (simp only [z5, z6, z7, GS.some_l, List.length_set, List.length_append, List.length_cons, List.length_nil, z8] at * <;> first | with_reducible assumption | omega) | (simp at * <;> omega)) (by first | assumption | omega | (with_reducible exact z9) | (simp only [z8] at * <;> omega) | (simp only [z5, z6, z7, GS.some_l, List.length_set, List.length_append, List.length_cons, List.length_nil] at * <;> first | with_reducible assumption | omega) | (simp only [z5, z6, z7, GS.some_l, List.length_set, List.length_append, List.length_cons, List.length_nil, z8] at * <;> first | with_reducible assumption | omega) | (simp at * <;> omega)) (by first | assumption | omega | (with_reducible exact z9) | (simp only [z8] at * <;> omega) | (simp only [z5, z6, z7, GS.some_l, List.length_set, List.length_append, List.length_cons, List.length_nil] at * <;> first | with_reducible assumption | omega) | (simp only [z5, z6, z7, GS.some_l, List.length_set, List.length_append, List.length_cons, List.length_nil, z8] at * <;> first | with_reducible assumption | omega) | (simp at * <;> omega))
    | false =>
      exact hl8_v8_0

def zJ (e : S_Estate) (items : GS Int) (shown : GS Int) : S_Estate × Int :=
  bif ((zp e items) != 0) then
    ((⟨GS.nil, (⟨0, 0⟩ : S_Span)⟩ : S_Estate), (zp e items))
  else
    bif (((shown.l.length : Nat) : Int) != ((items.l.length : Nat) : Int)) then
      ((⟨GS.nil, (⟨0, 0⟩ : S_Span)⟩ : S_Estate), 1)
    else
      bif (zQ shown) then
        ((⟨GS.nil, (⟨0, 0⟩ : S_Span)⟩ : S_Estate), 1)
      else
        match zC shown items.l 0 e.items.l with
        | .x0 v8_0 =>
          bif ((zf (zm (⟨GS.some v8_0, e.whole⟩ : S_Estate)) e.whole).2) then
            ((⟨GS.some v8_0, e.whole⟩ : S_Estate), 0)
          else
            ((⟨GS.nil, (⟨0, 0⟩ : S_Span)⟩ : S_Estate), 4)
        | .x1 i8 x8 v8_0 =>
          ((⟨GS.nil, (⟨0, 0⟩ : S_Span)⟩ : S_Estate), 4)

def orders_Measured_o1 (e : S_Estate) (items : GS Int) (shown : GS Int) : List Ora := [.pure (I (zp e items)), .dec false, .rw 25 (I ((shown.l.length : Nat) : Int)), .rw 27 (I ((items.l.length : Nat) : Int))]

def orders_Measured_o2 (e : S_Estate) (items : GS Int) (shown : GS Int) : List Ora := [.dec false, .pure (B (zQ shown)), .dec false, .inl (.lsl 3 0 e.items.l.length 4 none) [(2, ⟨[], 4, false⟩), (3, ⟨e.items.l.map S_Item.D, 4, false⟩)] 4, .rw 41 (I ((items.l.length : Nat) : Int))]

def sd58 (e : S_Estate) (items : GS Int) (shown : GS Int) : St := ⟨98, [(2, .sl shown.nl (shown.l.map I) (zsl shown.nl 1) none), (6, .lref 0 0 3 0), (9, .lref 1 0 3 0), (40, .sl items.nl (items.l.map I) (zsl items.nl 1) none), (41, I ((items.l.length : Nat) : Int)), (42, I 0)], [(0, ⟨[.agg [.sl true [] 0 none, I 0, I 0]], 3, false⟩), (1, ⟨[.agg [.lsl 2 0 e.items.l.length 4 none, I e.whole.lo, I e.whole.hi]], 3, false⟩), (2, ⟨e.items.l.map S_Item.D, 4, false⟩)], 3, 0⟩

def sd59 (e : S_Estate) (items : GS Int) (shown : GS Int) (v8_0 : List S_Item) : St := ⟨98, [(43, B false), (2, .sl shown.nl (shown.l.map I) (zsl shown.nl 1) none), (6, .lref 0 0 3 0), (9, .lref 1 0 3 0), (40, .sl items.nl (items.l.map I) (zsl items.nl 1) none), (41, I ((items.l.length : Nat) : Int)), (42, I ((items.l.length : Nat) : Int))], [(0, ⟨[.agg [.sl true [] 0 none, I 0, I 0]], 3, false⟩), (1, ⟨[.agg [.lsl 2 0 e.items.l.length 4 none, I e.whole.lo, I e.whole.hi]], 3, false⟩), (2, ⟨v8_0.map S_Item.D, 4, false⟩)], 3, 0⟩

def orders_Measured_o3 (e : S_Estate) (items : GS Int) (shown : GS Int) (v8_0 : List S_Item) : List Ora := [.gloop (sd58 e items shown) (.exit 0) (sd59 e items shown v8_0), .pureS (.agg [I ((zm (⟨GS.some v8_0, e.whole⟩ : S_Estate)).lo), I ((zm (⟨GS.some v8_0, e.whole⟩ : S_Estate)).hi)]) true [(2, .sl false (v8_0.map S_Item.D) 4 none, [2])], .pure (.tup [.agg [I (((zf (zm (⟨GS.some v8_0, e.whole⟩ : S_Estate)) e.whole).1).lo), I (((zf (zm (⟨GS.some v8_0, e.whole⟩ : S_Estate)) e.whole).1).hi)], B ((zf (zm (⟨GS.some v8_0, e.whole⟩ : S_Estate)) e.whole).2)])]

theorem clone85_2 (s : GS S_Item) (h : s.l ≠ []) (hb : s.l.length ≤ 1073741824) : (lim cfg).inl 85 [GS.D S_Item.D 4 s] [] 2 = some (.lsl 3 0 s.l.length 4 none, [(2, ⟨[], 4, false⟩), (3, ⟨s.l.map S_Item.D, 4, false⟩)], 4) :=
  po_inl [.op (some 4) ⟨B false, [], [], 2⟩, .dec false, .op (some 7) ⟨.lsl 3 0 s.l.length 4 none, [(3, some ⟨s.l.map S_Item.D, 4, false⟩)], [2], 4⟩]
    (And.intro (app_deep (te := ty69) (gO := zE [(2, ⟨[], 4, false⟩)]) (nxt := 3) (o := 2) (fz := false) zi s h (nonnil h) (by kernel_rfl) rfl (by kernel_rfl) (by decide) ⟨by simp [ty69, big]; omega, by simp [big]; omega⟩) (And.intro (Eq.refl false) (And.intro (nil_eql (C := cfg) (t := 22) (cst := true) (sz := zsl s.nl 4) (cap := none) (els := s.l.map S_Item.D) (nxt := 2) (nonnil h) (by kernel_rfl)) trivial))) (by kernel_rfl)

def sd57 (e : S_Estate) (items : GS Int) (shown : GS Int) : St := ⟨98, [(42, I 0), (41, I ((items.l.length : Nat) : Int)), (40, .sl items.nl (items.l.map I) (zsl items.nl 1) none), (9, .lref 4 0 3 0), (39, .agg [.lsl 3 0 e.items.l.length 4 none, I e.whole.lo, I e.whole.hi]), (38, .agg [I e.whole.lo, I e.whole.hi]), (37, .lref 0 0 3 1), (36, .lsl 3 0 e.items.l.length 4 none), (35, .sl e.items.nl (e.items.l.map S_Item.D) (zsl e.items.nl 4) none), (34, .lref 0 0 3 0), (32, B false), (31, B false), (30, .sl shown.nl (shown.l.map I) (zsl shown.nl 1) none), (29, B false), (28, B false), (27, I ((items.l.length : Nat) : Int)), (26, .sl items.nl (items.l.map I) (zsl items.nl 1) none), (25, I ((shown.l.length : Nat) : Int)), (24, .sl shown.nl (shown.l.map I) (zsl shown.nl 1) none), (21, B false), (20, I (zp e items)), (8, I (zp e items)), (19, I (zp e items)), (18, .sl items.nl (items.l.map I) (zsl items.nl 1) none), (17, .agg [.sl e.items.nl (e.items.l.map S_Item.D) (zsl e.items.nl 4) none, I e.whole.lo, I e.whole.hi]), (7, I 0), (6, .lref 1 0 3 0), (3, .lref 0 0 3 0), (0, .agg [.sl e.items.nl (e.items.l.map S_Item.D) (zsl e.items.nl 4) none, I e.whole.lo, I e.whole.hi]), (1, .sl items.nl (items.l.map I) (zsl items.nl 1) none), (2, .sl shown.nl (shown.l.map I) (zsl shown.nl 1) none)], [(0, ⟨[.agg [.sl e.items.nl (e.items.l.map S_Item.D) (zsl e.items.nl 4) none, I e.whole.lo, I e.whole.hi]], 3, false⟩), (1, ⟨[.agg [.sl true [] 0 none, I 0, I 0]], 3, false⟩), (2, ⟨[], 4, false⟩), (3, ⟨e.items.l.map S_Item.D, 4, false⟩), (4, ⟨[.agg [.lsl 3 0 e.items.l.length 4 none, I e.whole.lo, I e.whole.hi]], 3, false⟩)], 5, 0⟩

def sd60 (e : S_Estate) (items : GS Int) (shown : GS Int) (i8 : Nat) (x8 : Int) (v8_0 : List S_Item) : St := ⟨98, [(7, I 4), (80, .agg [.sl true [] 0 none, I 0, I 0]), (79, B true), (78, B false), (14, B false), (13, .lref 3 0 2 0), (77, B false), (76, .agg [I (((zf ((v8_0.getD ((x8).toNat) default).now) (⟨w64 ((GS.at shown ((i8 : Nat) : Int)) - ((v8_0.getD ((x8).toNat) default).error)), w64 ((GS.at shown ((i8 : Nat) : Int)) + ((v8_0.getD ((x8).toNat) default).error))⟩ : S_Span)).1).lo), I (((zf ((v8_0.getD ((x8).toNat) default).now) (⟨w64 ((GS.at shown ((i8 : Nat) : Int)) - ((v8_0.getD ((x8).toNat) default).error)), w64 ((GS.at shown ((i8 : Nat) : Int)) + ((v8_0.getD ((x8).toNat) default).error))⟩ : S_Span)).1).hi)]), (51, .tup [.agg [I (((zf ((v8_0.getD ((x8).toNat) default).now) (⟨w64 ((GS.at shown ((i8 : Nat) : Int)) - ((v8_0.getD ((x8).toNat) default).error)), w64 ((GS.at shown ((i8 : Nat) : Int)) + ((v8_0.getD ((x8).toNat) default).error))⟩ : S_Span)).1).lo), I (((zf ((v8_0.getD ((x8).toNat) default).now) (⟨w64 ((GS.at shown ((i8 : Nat) : Int)) - ((v8_0.getD ((x8).toNat) default).error)), w64 ((GS.at shown ((i8 : Nat) : Int)) + ((v8_0.getD ((x8).toNat) default).error))⟩ : S_Span)).1).hi)], B ((zf ((v8_0.getD ((x8).toNat) default).now) (⟨w64 ((GS.at shown ((i8 : Nat) : Int)) - ((v8_0.getD ((x8).toNat) default).error)), w64 ((GS.at shown ((i8 : Nat) : Int)) + ((v8_0.getD ((x8).toNat) default).error))⟩ : S_Span)).2)]), (75, .tup [.agg [I (((zf ((v8_0.getD ((x8).toNat) default).now) (⟨w64 ((GS.at shown ((i8 : Nat) : Int)) - ((v8_0.getD ((x8).toNat) default).error)), w64 ((GS.at shown ((i8 : Nat) : Int)) + ((v8_0.getD ((x8).toNat) default).error))⟩ : S_Span)).1).lo), I (((zf ((v8_0.getD ((x8).toNat) default).now) (⟨w64 ((GS.at shown ((i8 : Nat) : Int)) - ((v8_0.getD ((x8).toNat) default).error)), w64 ((GS.at shown ((i8 : Nat) : Int)) + ((v8_0.getD ((x8).toNat) default).error))⟩ : S_Span)).1).hi)], B ((zf ((v8_0.getD ((x8).toNat) default).now) (⟨w64 ((GS.at shown ((i8 : Nat) : Int)) - ((v8_0.getD ((x8).toNat) default).error)), w64 ((GS.at shown ((i8 : Nat) : Int)) + ((v8_0.getD ((x8).toNat) default).error))⟩ : S_Span)).2)]), (74, .agg [I (w64 ((GS.at shown ((i8 : Nat) : Int)) - ((v8_0.getD ((x8).toNat) default).error))), I (w64 ((GS.at shown ((i8 : Nat) : Int)) + ((v8_0.getD ((x8).toNat) default).error)))]), (73, I (w64 ((GS.at shown ((i8 : Nat) : Int)) + ((v8_0.getD ((x8).toNat) default).error)))), (72, I ((v8_0.getD ((x8).toNat) default).error)), (71, .lref 2 ((x8).toNat) 4 3), (70, .lref 2 ((x8).toNat) 4 0), (69, .lref 2 ((x8).toNat) 4 0), (68, I (GS.at shown ((i8 : Nat) : Int))), (67, .ptr (I (GS.at shown ((i8 : Nat) : Int)))), (66, I ((i8 : Nat) : Int)), (65, .sl shown.nl (shown.l.map I) (zsl shown.nl 1) none), (64, I (w64 ((GS.at shown ((i8 : Nat) : Int)) - ((v8_0.getD ((x8).toNat) default).error)))), (63, I ((v8_0.getD ((x8).toNat) default).error)), (62, .lref 2 ((x8).toNat) 4 3), (61, .lref 2 ((x8).toNat) 4 0), (60, .lref 2 ((x8).toNat) 4 0), (59, I (GS.at shown ((i8 : Nat) : Int))), (58, .ptr (I (GS.at shown ((i8 : Nat) : Int)))), (57, I ((i8 : Nat) : Int)), (56, .sl shown.nl (shown.l.map I) (zsl shown.nl 1) none), (55, .agg [I ((v8_0.getD ((x8).toNat) default).now.lo), I ((v8_0.getD ((x8).toNat) default).now.hi)]), (54, .lref 2 ((x8).toNat) 4 0), (53, .lref 2 ((x8).toNat) 4 0), (52, .lref 2 ((x8).toNat) 4 0), (12, .lref 2 ((x8).toNat) 4 0), (50, .lref 2 ((x8).toNat) 4 0), (49, I x8), (48, .lsl 2 0 e.items.l.length 4 none), (47, .lref 1 0 3 0), (11, I x8), (10, I ((i8 : Nat) : Int)), (46, I x8), (45, .ptr (I x8)), (44, I ((i8 : Nat) : Int)), (43, B true), (2, .sl shown.nl (shown.l.map I) (zsl shown.nl 1) none), (6, .lref 0 0 3 0), (9, .lref 1 0 3 0), (40, .sl items.nl (items.l.map I) (zsl items.nl 1) none), (41, I ((items.l.length : Nat) : Int)), (42, I ((i8 : Nat) : Int))], [(0, ⟨[.agg [.sl true [] 0 none, I 0, I 0]], 3, false⟩), (1, ⟨[.agg [.lsl 2 0 e.items.l.length 4 none, I e.whole.lo, I e.whole.hi]], 3, false⟩), (2, ⟨v8_0.map S_Item.D, 4, false⟩), (3, ⟨[.agg [I (((zf ((v8_0.getD ((x8).toNat) default).now) (⟨w64 ((GS.at shown ((i8 : Nat) : Int)) - ((v8_0.getD ((x8).toNat) default).error)), w64 ((GS.at shown ((i8 : Nat) : Int)) + ((v8_0.getD ((x8).toNat) default).error))⟩ : S_Span)).1).lo), I (((zf ((v8_0.getD ((x8).toNat) default).now) (⟨w64 ((GS.at shown ((i8 : Nat) : Int)) - ((v8_0.getD ((x8).toNat) default).error)), w64 ((GS.at shown ((i8 : Nat) : Int)) + ((v8_0.getD ((x8).toNat) default).error))⟩ : S_Span)).1).hi)]], 2, false⟩)], 4, 0⟩

theorem T_orders_Measured (e : S_Estate) (items : GS Int) (shown : GS Int) (hL : items.l.length ≤ 9223372036854775807) (hLs : shown.l.length ≤ 9223372036854775807) : (lim cfg).pure 41 [S_Estate.D e, GS.D I 1 items, GS.D I 1 shown] = some (.tup [S_Estate.D ((zJ e items shown).1), I ((zJ e items shown).2)]) := by
  unfold zJ
  cases h1 : ((zp e items) != 0) with
  | true =>
    have g1 := y0 h1
    exact zh [.pure (I (zp e items)), .dec true] (And.intro h1 (And.intro (zT e items (by first | assumption | omega | (with_reducible exact z9) | (simp only [z8] at * <;> omega) | (simp only [z5, z6, z7, GS.some_l, List.length_set, List.length_append, List.length_cons, List.length_nil] at * <;> first | with_reducible assumption | omega) | (simp only [z5, z6, z7, GS.some_l, List.length_set, List.length_append, List.length_cons, List.length_nil, z8] at * <;> first | with_reducible assumption | omega) | (simp at * <;> omega))) trivial)) (by kernel_rfl)
  | false =>
    obtain ⟨g1, gb1⟩ := And.intro (right_ok (by assumption) (zF h1)) (right_all (by assumption) (zF h1))
    cases h2 : (((shown.l.length : Nat) : Int) != ((items.l.length : Nat) : Int)) with
    | true =>
      have g2 := y0 h2
      exact zh ((orders_Measured_o1 e items shown) ++ [.dec true]) (And.intro h2 (And.intro (zn I items) (And.intro (zn I shown) (And.intro h1 (And.intro (zT e items (by first | assumption | omega | (with_reducible exact z9) | (simp only [z8] at * <;> omega) | (simp only [z5, z6, z7, GS.some_l, List.length_set, List.length_append, List.length_cons, List.length_nil] at * <;> first | with_reducible assumption | omega) | (simp only [z5, z6, z7, GS.some_l, List.length_set, List.length_append, List.length_cons, List.length_nil, z8] at * <;> first | with_reducible assumption | omega) | (simp at * <;> omega))) trivial))))) (by kernel_rfl)
    | false =>
      have g2 := zF h2
      have p1 := (T_slices_ContainsFunc shown (by first | assumption | omega | (with_reducible exact z9) | (simp only [z8] at * <;> omega) | (simp only [z5, z6, z7, GS.some_l, List.length_set, List.length_append, List.length_cons, List.length_nil] at * <;> first | with_reducible assumption | omega) | (simp only [z5, z6, z7, GS.some_l, List.length_set, List.length_append, List.length_cons, List.length_nil, z8] at * <;> first | with_reducible assumption | omega) | (simp at * <;> omega)))
      cases h3 : (zQ shown) with
      | true =>
        exact zh ((orders_Measured_o1 e items shown) ++ [.dec false, .pure (B (zQ shown)), .dec true]) (And.intro h3 (And.intro p1 (And.intro h2 (And.intro (zn I items) (And.intro (zn I shown) (And.intro h1 (And.intro (zT e items (by first | assumption | omega | (with_reducible exact z9) | (simp only [z8] at * <;> omega) | (simp only [z5, z6, z7, GS.some_l, List.length_set, List.length_append, List.length_cons, List.length_nil] at * <;> first | with_reducible assumption | omega) | (simp only [z5, z6, z7, GS.some_l, List.length_set, List.length_append, List.length_cons, List.length_nil, z8] at * <;> first | with_reducible assumption | omega) | (simp at * <;> omega))) trivial))))))) (by kernel_rfl)
      | false =>
        have p2 := (clone85_2 e.items (ne_of_len (by first | assumption | omega | (with_reducible exact z9) | (simp only [z8] at * <;> omega) | (simp only [z5, z6, z7, GS.some_l, List.length_set, List.length_append, List.length_cons, List.length_nil] at * <;> first | with_reducible assumption | omega) | (simp only [z5, z6, z7, GS.some_l, List.length_set, List.length_append, List.length_cons, List.length_nil, z8] at * <;> first | with_reducible assumption | omega) | (simp at * <;> omega))) (by first | assumption | omega | (with_reducible exact z9) | (simp only [z8] at * <;> omega) | (simp only [z5, z6, z7, GS.some_l, List.length_set, List.length_append, List.length_cons, List.length_nil] at * <;> first | with_reducible assumption | omega) | (simp only [z5, z6, z7, GS.some_l, List.length_set, List.length_append, List.length_cons, List.length_nil, z8] at * <;> first | with_reducible assumption | omega) | (simp at * <;> omega)))
        have p3 := (gc_of (C := cfg) (f := 41) (a := lp41_8) (ks := [2, 6, 9, 40, 41, 42]) (st := (sd57 e items shown)) (st1 := (sd58 e items shown)) (by kernel_rfl) (by (simp only [sd57, sd58, go_sem, Nat.reduceAdd, Nat.reduceEqDiff, Nat.reduceLT, Nat.reduceLeDiff, bI2, zN.idsL, zN.renL, zN.snapAll, zi.idsL, zi.renL, zi.snapAll]) <;> rfl))
        cases h6 : zC shown items.l 0 e.items.l with
        | x0 v8_0 =>
          try dsimp only
          have hv_h6 := ivt_orders_Measured_8 e items shown items.l 0 e.items.l (List.drop_zero) (Nat.zero_le _) (by first | assumption | omega | (with_reducible exact z9) | (simp only [z8] at * <;> omega) | (simp only [z5, z6, z7, GS.some_l, List.length_set, List.length_append, List.length_cons, List.length_nil] at * <;> first | with_reducible assumption | omega) | (simp only [z5, z6, z7, GS.some_l, List.length_set, List.length_append, List.length_cons, List.length_nil, z8] at * <;> first | with_reducible assumption | omega) | (simp at * <;> omega)) (by first | assumption | omega | (with_reducible exact z9) | (simp only [z8] at * <;> omega) | (simp only [z5, z6, z7, GS.some_l, List.length_set, List.length_append, List.length_cons, List.length_nil] at * <;> first | with_reducible assumption | omega) | (simp only [z5, z6, z7, GS.some_l, List.length_set, List.length_append, List.length_cons, List.length_nil, z8] at * <;> first | with_reducible assumption | omega) | (simp at * <;> omega)) (by first | assumption | omega | (with_reducible exact z9) | (simp only [z8] at * <;> omega) | (simp only [z5, z6, z7, GS.some_l, List.length_set, List.length_append, List.length_cons, List.length_nil] at * <;> first | with_reducible assumption | omega) | (simp only [z5, z6, z7, GS.some_l, List.length_set, List.length_append, List.length_cons, List.length_nil, z8] at * <;> first | with_reducible assumption | omega) | (simp at * <;> omega)) (by first | assumption | omega | (with_reducible exact z9) | (simp only [z8] at * <;> omega) | (simp only [z5, z6, z7, GS.some_l, List.length_set, List.length_append, List.length_cons, List.length_nil] at * <;> first | with_reducible assumption | omega) | (simp only [z5, z6, z7, GS.some_l, List.length_set, List.length_append, List.length_cons, List.length_nil, z8] at * <;> first | with_reducible assumption | omega) | (simp at * <;> omega)) (by first | assumption | omega | (with_reducible exact z9) | (simp only [z8] at * <;> omega) | (simp only [z5, z6, z7, GS.some_l, List.length_set, List.length_append, List.length_cons, List.length_nil] at * <;> first | with_reducible assumption | omega) | (simp only [z5, z6, z7, GS.some_l, List.length_set, List.length_append, List.length_cons, List.length_nil, z8] at * <;> first | with_reducible assumption | omega) | (simp at * <;> omega))
          rw [h6] at hv_h6
          have hv_h6_0 := hv_h6
          try dsimp only [iv_orders_Measured_8] at hv_h6_0
          have p4 := (po_lr (q := lr_orders_Measured_8 e items shown) (lp_orders_Measured_8 e items shown items.l 0 e.items.l (List.drop_zero) (Nat.zero_le _) (by first | assumption | omega | (with_reducible exact z9) | (simp only [z8] at * <;> omega) | (simp only [z5, z6, z7, GS.some_l, List.length_set, List.length_append, List.length_cons, List.length_nil] at * <;> first | with_reducible assumption | omega) | (simp only [z5, z6, z7, GS.some_l, List.length_set, List.length_append, List.length_cons, List.length_nil, z8] at * <;> first | with_reducible assumption | omega) | (simp at * <;> omega)) (by first | assumption | omega | (with_reducible exact z9) | (simp only [z8] at * <;> omega) | (simp only [z5, z6, z7, GS.some_l, List.length_set, List.length_append, List.length_cons, List.length_nil] at * <;> first | with_reducible assumption | omega) | (simp only [z5, z6, z7, GS.some_l, List.length_set, List.length_append, List.length_cons, List.length_nil, z8] at * <;> first | with_reducible assumption | omega) | (simp at * <;> omega)) (by first | assumption | omega | (with_reducible exact z9) | (simp only [z8] at * <;> omega) | (simp only [z5, z6, z7, GS.some_l, List.length_set, List.length_append, List.length_cons, List.length_nil] at * <;> first | with_reducible assumption | omega) | (simp only [z5, z6, z7, GS.some_l, List.length_set, List.length_append, List.length_cons, List.length_nil, z8] at * <;> first | with_reducible assumption | omega) | (simp at * <;> omega)) (by first | assumption | omega | (with_reducible exact z9) | (simp only [z8] at * <;> omega) | (simp only [z5, z6, z7, GS.some_l, List.length_set, List.length_append, List.length_cons, List.length_nil] at * <;> first | with_reducible assumption | omega) | (simp only [z5, z6, z7, GS.some_l, List.length_set, List.length_append, List.length_cons, List.length_nil, z8] at * <;> first | with_reducible assumption | omega) | (simp at * <;> omega)) (by first | assumption | omega | (with_reducible exact z9) | (simp only [z8] at * <;> omega) | (simp only [z5, z6, z7, GS.some_l, List.length_set, List.length_append, List.length_cons, List.length_nil] at * <;> first | with_reducible assumption | omega) | (simp only [z5, z6, z7, GS.some_l, List.length_set, List.length_append, List.length_cons, List.length_nil, z8] at * <;> first | with_reducible assumption | omega) | (simp at * <;> omega))) h6)
          have p5 := (And.intro (show flat fuelD (.agg [I ((zm (⟨GS.some v8_0, e.whole⟩ : S_Estate)).lo), I ((zm (⟨GS.some v8_0, e.whole⟩ : S_Estate)).hi)]) = true from (by kernel_rfl)) (And.intro (And.intro (snap_row (gO := zE [(0, ⟨[.agg [.sl true [] 0 none, I 0, I 0]], 3, false⟩), (1, ⟨[.agg [.lsl 2 0 e.items.l.length 4 none, I e.whole.lo, I e.whole.hi]], 3, false⟩), (2, ⟨v8_0.map S_Item.D, 4, false⟩)]) (o := 2) (len := e.items.l.length) (cap := none) (fz := false) zi v8_0 (by kernel_rfl) (by first | assumption | omega | (with_reducible exact z9) | (simp only [z8] at * <;> omega) | (simp only [z5, z6, z7, GS.some_l, List.length_set, List.length_append, List.length_cons, List.length_nil] at * <;> first | with_reducible assumption | omega) | (simp only [z5, z6, z7, GS.some_l, List.length_set, List.length_append, List.length_cons, List.length_nil, z8] at * <;> first | with_reducible assumption | omega) | (simp at * <;> omega))) trivial) (T_orders_all (⟨GS.some v8_0, e.whole⟩ : S_Estate) (by first | assumption | omega | (with_reducible exact z9) | (simp only [z8] at * <;> omega) | (simp only [z5, z6, z7, GS.some_l, List.length_set, List.length_append, List.length_cons, List.length_nil] at * <;> first | with_reducible assumption | omega) | (simp only [z5, z6, z7, GS.some_l, List.length_set, List.length_append, List.length_cons, List.length_nil, z8] at * <;> first | with_reducible assumption | omega) | (simp at * <;> omega)))))
          have p6 := (T_orders_common (zm (⟨GS.some v8_0, e.whole⟩ : S_Estate)) e.whole)
          cases h7 : ((zf (zm (⟨GS.some v8_0, e.whole⟩ : S_Estate)) e.whole).2) with
          | true =>
            exact po_pureS ((orders_Measured_o1 e items shown) ++ ((orders_Measured_o2 e items shown) ++ ((orders_Measured_o3 e items shown v8_0) ++ [.dec true]))) [(2, .sl false (v8_0.map S_Item.D) 4 none, [2])] (And.intro (snap_row (gO := zE [(0, ⟨[.agg [.lsl 2 0 e.items.l.length 4 none, I e.whole.lo, I e.whole.hi]], 3, false⟩), (1, ⟨[.agg [.lsl 2 0 e.items.l.length 4 none, I e.whole.lo, I e.whole.hi]], 3, false⟩), (2, ⟨v8_0.map S_Item.D, 4, false⟩), (3, ⟨[.agg [I (((zf (zm (⟨GS.some v8_0, e.whole⟩ : S_Estate)) e.whole).1).lo), I (((zf (zm (⟨GS.some v8_0, e.whole⟩ : S_Estate)) e.whole).1).hi)]], 2, false⟩)]) (o := 2) (len := e.items.l.length) (cap := none) (fz := false) zi v8_0 (by kernel_rfl) (by first | assumption | omega | (with_reducible exact z9) | (simp only [z8] at * <;> omega) | (simp only [z5, z6, z7, GS.some_l, List.length_set, List.length_append, List.length_cons, List.length_nil] at * <;> first | with_reducible assumption | omega) | (simp only [z5, z6, z7, GS.some_l, List.length_set, List.length_append, List.length_cons, List.length_nil, z8] at * <;> first | with_reducible assumption | omega) | (simp at * <;> omega))) (And.intro h7 (And.intro p6 (And.intro p5 (And.intro p4 (And.intro p3 (And.intro (zn I items) (And.intro p2 (And.intro h3 (And.intro p1 (And.intro h2 (And.intro (zn I items) (And.intro (zn I shown) (And.intro h1 (And.intro (zT e items (by first | assumption | omega | (with_reducible exact z9) | (simp only [z8] at * <;> omega) | (simp only [z5, z6, z7, GS.some_l, List.length_set, List.length_append, List.length_cons, List.length_nil] at * <;> first | with_reducible assumption | omega) | (simp only [z5, z6, z7, GS.some_l, List.length_set, List.length_append, List.length_cons, List.length_nil, z8] at * <;> first | with_reducible assumption | omega) | (simp at * <;> omega))) trivial))))))))))))))) (by kernel_rfl)
          | false =>
            exact zh ((orders_Measured_o1 e items shown) ++ ((orders_Measured_o2 e items shown) ++ ((orders_Measured_o3 e items shown v8_0) ++ [.dec false]))) (And.intro h7 (And.intro p6 (And.intro p5 (And.intro p4 (And.intro p3 (And.intro (zn I items) (And.intro p2 (And.intro h3 (And.intro p1 (And.intro h2 (And.intro (zn I items) (And.intro (zn I shown) (And.intro h1 (And.intro (zT e items (by first | assumption | omega | (with_reducible exact z9) | (simp only [z8] at * <;> omega) | (simp only [z5, z6, z7, GS.some_l, List.length_set, List.length_append, List.length_cons, List.length_nil] at * <;> first | with_reducible assumption | omega) | (simp only [z5, z6, z7, GS.some_l, List.length_set, List.length_append, List.length_cons, List.length_nil, z8] at * <;> first | with_reducible assumption | omega) | (simp at * <;> omega))) trivial)))))))))))))) (by kernel_rfl)
        | x1 i8 x8 v8_0 =>
          try dsimp only
          have hv_h6 := ivt_orders_Measured_8 e items shown items.l 0 e.items.l (List.drop_zero) (Nat.zero_le _) (by first | assumption | omega | (with_reducible exact z9) | (simp only [z8] at * <;> omega) | (simp only [z5, z6, z7, GS.some_l, List.length_set, List.length_append, List.length_cons, List.length_nil] at * <;> first | with_reducible assumption | omega) | (simp only [z5, z6, z7, GS.some_l, List.length_set, List.length_append, List.length_cons, List.length_nil, z8] at * <;> first | with_reducible assumption | omega) | (simp at * <;> omega)) (by first | assumption | omega | (with_reducible exact z9) | (simp only [z8] at * <;> omega) | (simp only [z5, z6, z7, GS.some_l, List.length_set, List.length_append, List.length_cons, List.length_nil] at * <;> first | with_reducible assumption | omega) | (simp only [z5, z6, z7, GS.some_l, List.length_set, List.length_append, List.length_cons, List.length_nil, z8] at * <;> first | with_reducible assumption | omega) | (simp at * <;> omega)) (by first | assumption | omega | (with_reducible exact z9) | (simp only [z8] at * <;> omega) | (simp only [z5, z6, z7, GS.some_l, List.length_set, List.length_append, List.length_cons, List.length_nil] at * <;> first | with_reducible assumption | omega) | (simp only [z5, z6, z7, GS.some_l, List.length_set, List.length_append, List.length_cons, List.length_nil, z8] at * <;> first | with_reducible assumption | omega) | (simp at * <;> omega)) (by first | assumption | omega | (with_reducible exact z9) | (simp only [z8] at * <;> omega) | (simp only [z5, z6, z7, GS.some_l, List.length_set, List.length_append, List.length_cons, List.length_nil] at * <;> first | with_reducible assumption | omega) | (simp only [z5, z6, z7, GS.some_l, List.length_set, List.length_append, List.length_cons, List.length_nil, z8] at * <;> first | with_reducible assumption | omega) | (simp at * <;> omega)) (by first | assumption | omega | (with_reducible exact z9) | (simp only [z8] at * <;> omega) | (simp only [z5, z6, z7, GS.some_l, List.length_set, List.length_append, List.length_cons, List.length_nil] at * <;> first | with_reducible assumption | omega) | (simp only [z5, z6, z7, GS.some_l, List.length_set, List.length_append, List.length_cons, List.length_nil, z8] at * <;> first | with_reducible assumption | omega) | (simp at * <;> omega))
          rw [h6] at hv_h6
          have hv_h6_0 := hv_h6
          try dsimp only [iv_orders_Measured_8] at hv_h6_0
          exact zh ((orders_Measured_o1 e items shown) ++ ((orders_Measured_o2 e items shown) ++ [.gloop (sd58 e items shown) .ret (sd60 e items shown i8 x8 v8_0)])) (And.intro (po_lr (q := lr_orders_Measured_8 e items shown) (lp_orders_Measured_8 e items shown items.l 0 e.items.l (List.drop_zero) (Nat.zero_le _) (by first | assumption | omega | (with_reducible exact z9) | (simp only [z8] at * <;> omega) | (simp only [z5, z6, z7, GS.some_l, List.length_set, List.length_append, List.length_cons, List.length_nil] at * <;> first | with_reducible assumption | omega) | (simp only [z5, z6, z7, GS.some_l, List.length_set, List.length_append, List.length_cons, List.length_nil, z8] at * <;> first | with_reducible assumption | omega) | (simp at * <;> omega)) (by first | assumption | omega | (with_reducible exact z9) | (simp only [z8] at * <;> omega) | (simp only [z5, z6, z7, GS.some_l, List.length_set, List.length_append, List.length_cons, List.length_nil] at * <;> first | with_reducible assumption | omega) | (simp only [z5, z6, z7, GS.some_l, List.length_set, List.length_append, List.length_cons, List.length_nil, z8] at * <;> first | with_reducible assumption | omega) | (simp at * <;> omega)) (by first | assumption | omega | (with_reducible exact z9) | (simp only [z8] at * <;> omega) | (simp only [z5, z6, z7, GS.some_l, List.length_set, List.length_append, List.length_cons, List.length_nil] at * <;> first | with_reducible assumption | omega) | (simp only [z5, z6, z7, GS.some_l, List.length_set, List.length_append, List.length_cons, List.length_nil, z8] at * <;> first | with_reducible assumption | omega) | (simp at * <;> omega)) (by first | assumption | omega | (with_reducible exact z9) | (simp only [z8] at * <;> omega) | (simp only [z5, z6, z7, GS.some_l, List.length_set, List.length_append, List.length_cons, List.length_nil] at * <;> first | with_reducible assumption | omega) | (simp only [z5, z6, z7, GS.some_l, List.length_set, List.length_append, List.length_cons, List.length_nil, z8] at * <;> first | with_reducible assumption | omega) | (simp at * <;> omega)) (by first | assumption | omega | (with_reducible exact z9) | (simp only [z8] at * <;> omega) | (simp only [z5, z6, z7, GS.some_l, List.length_set, List.length_append, List.length_cons, List.length_nil] at * <;> first | with_reducible assumption | omega) | (simp only [z5, z6, z7, GS.some_l, List.length_set, List.length_append, List.length_cons, List.length_nil, z8] at * <;> first | with_reducible assumption | omega) | (simp at * <;> omega))) h6) (And.intro p3 (And.intro (zn I items) (And.intro p2 (And.intro h3 (And.intro p1 (And.intro h2 (And.intro (zn I items) (And.intro (zn I shown) (And.intro h1 (And.intro (zT e items (by first | assumption | omega | (with_reducible exact z9) | (simp only [z8] at * <;> omega) | (simp only [z5, z6, z7, GS.some_l, List.length_set, List.length_append, List.length_cons, List.length_nil] at * <;> first | with_reducible assumption | omega) | (simp only [z5, z6, z7, GS.some_l, List.length_set, List.length_append, List.length_cons, List.length_nil, z8] at * <;> first | with_reducible assumption | omega) | (simp at * <;> omega))) trivial))))))))))) (by kernel_rfl)
end Go.VS
namespace Go.VS
open Go Go.Proofs
set_option maxHeartbeats 0
set_option linter.unusedSimpArgs false
set_option linter.unusedVariables false
noncomputable def lp34_5 : Code := subC [1, 1, 1, 0, 1, 0, 0] (bodyC Tryz.f34)

inductive LR_r_CheckAreas_5 where
  | x0 (v5_0 : Int)
  | x1 (i5 : Nat) (x5 : Int) (v5_0 : Int)
  | x2 (i5 : Nat) (x5 : Int) (v5_0 : Int)
instance : Inhabited LR_r_CheckAreas_5 := ⟨.x0 default⟩
def r_CheckAreas_5 (e : S_Estate) : List Int → Nat → Int → LR_r_CheckAreas_5
  | [], i5, v5_0 => .x0 v5_0
  | x5 :: rest5, i5, v5_0 =>
    bif decide (x5 < ((GS.at e.items ((i5 : Nat) : Int)).now.lo)) then
      .x1 i5 x5 v5_0
    else
      bif decide (x5 > ((GS.at e.items ((i5 : Nat) : Int)).now.hi)) then
        .x2 i5 x5 v5_0
      else
        r_CheckAreas_5 e rest5 (i5 + 1) (w64 (v5_0 + x5))
def lr_r_CheckAreas_5 (e : S_Estate) (l : GS Int) : LR_r_CheckAreas_5 → Exit × St
  | .x0 v5_0 => ((.exit 0), ⟨68, [(21, B false), (20, I ((l.l.length : Nat) : Int)), (19, .sl l.nl (l.l.map I) (zsl l.nl 1) none), (18, I ((l.l.length : Nat) : Int)), (1, .sl l.nl (l.l.map I) (zsl l.nl 1) none), (2, .lref 0 0 3 0), (5, I v5_0), (6, I ((l.l.length : Nat) : Int))], [(0, ⟨[.agg [.sl e.items.nl (e.items.l.map S_Item.D) (zsl e.items.nl 4) none, I e.whole.lo, I e.whole.hi]], 3, false⟩)], 1, 0⟩)
  | .x1 i5 x5 v5_0 => (.ret, ⟨68, [(4, I 80), (49, B true), (48, .tup []), (47, .tup []), (46, .tup []), (45, .tup []), (44, .tup []), (43, .tup []), (42, .tup []), (41, .tup []), (40, .tup []), (39, .tup []), (38, .tup []), (37, .tup []), (36, B true), (35, B true), (34, I ((GS.at e.items ((i5 : Nat) : Int)).now.lo)), (33, .ptr (I ((GS.at e.items ((i5 : Nat) : Int)).now.lo))), (32, .ptr (.agg [I ((GS.at e.items ((i5 : Nat) : Int)).now.lo), I ((GS.at e.items ((i5 : Nat) : Int)).now.hi)])), (31, .ptr (.agg [I ((GS.at e.items ((i5 : Nat) : Int)).now.lo), I ((GS.at e.items ((i5 : Nat) : Int)).now.hi), I ((GS.at e.items ((i5 : Nat) : Int)).cost), I ((GS.at e.items ((i5 : Nat) : Int)).error)])), (30, I ((i5 : Nat) : Int)), (29, .sl e.items.nl (e.items.l.map S_Item.D) (zsl e.items.nl 4) none), (28, .lref 0 0 3 0), (27, I x5), (26, .ptr (I x5)), (25, I ((i5 : Nat) : Int)), (24, .sl l.nl (l.l.map I) (zsl l.nl 1) none), (21, B true), (20, I ((l.l.length : Nat) : Int)), (19, .sl l.nl (l.l.map I) (zsl l.nl 1) none), (18, I ((i5 : Nat) : Int)), (1, .sl l.nl (l.l.map I) (zsl l.nl 1) none), (2, .lref 0 0 3 0), (5, I v5_0), (6, I ((i5 : Nat) : Int))], [(0, ⟨[.agg [.sl e.items.nl (e.items.l.map S_Item.D) (zsl e.items.nl 4) none, I e.whole.lo, I e.whole.hi]], 3, false⟩)], 1, 0⟩)
  | .x2 i5 x5 v5_0 => (.ret, ⟨68, [(4, I 80), (49, B true), (48, B true), (47, I ((GS.at e.items ((i5 : Nat) : Int)).now.hi)), (46, .ptr (I ((GS.at e.items ((i5 : Nat) : Int)).now.hi))), (45, .ptr (.agg [I ((GS.at e.items ((i5 : Nat) : Int)).now.lo), I ((GS.at e.items ((i5 : Nat) : Int)).now.hi)])), (44, .ptr (.agg [I ((GS.at e.items ((i5 : Nat) : Int)).now.lo), I ((GS.at e.items ((i5 : Nat) : Int)).now.hi), I ((GS.at e.items ((i5 : Nat) : Int)).cost), I ((GS.at e.items ((i5 : Nat) : Int)).error)])), (43, I ((i5 : Nat) : Int)), (42, .sl e.items.nl (e.items.l.map S_Item.D) (zsl e.items.nl 4) none), (41, .lref 0 0 3 0), (40, I x5), (39, .ptr (I x5)), (38, I ((i5 : Nat) : Int)), (37, .sl l.nl (l.l.map I) (zsl l.nl 1) none), (36, B false), (35, B false), (34, I ((GS.at e.items ((i5 : Nat) : Int)).now.lo)), (33, .ptr (I ((GS.at e.items ((i5 : Nat) : Int)).now.lo))), (32, .ptr (.agg [I ((GS.at e.items ((i5 : Nat) : Int)).now.lo), I ((GS.at e.items ((i5 : Nat) : Int)).now.hi)])), (31, .ptr (.agg [I ((GS.at e.items ((i5 : Nat) : Int)).now.lo), I ((GS.at e.items ((i5 : Nat) : Int)).now.hi), I ((GS.at e.items ((i5 : Nat) : Int)).cost), I ((GS.at e.items ((i5 : Nat) : Int)).error)])), (30, I ((i5 : Nat) : Int)), (29, .sl e.items.nl (e.items.l.map S_Item.D) (zsl e.items.nl 4) none), (28, .lref 0 0 3 0), (27, I x5), (26, .ptr (I x5)), (25, I ((i5 : Nat) : Int)), (24, .sl l.nl (l.l.map I) (zsl l.nl 1) none), (21, B true), (20, I ((l.l.length : Nat) : Int)), (19, .sl l.nl (l.l.map I) (zsl l.nl 1) none), (18, I ((i5 : Nat) : Int)), (1, .sl l.nl (l.l.map I) (zsl l.nl 1) none), (2, .lref 0 0 3 0), (5, I v5_0), (6, I ((i5 : Nat) : Int))], [(0, ⟨[.agg [.sl e.items.nl (e.items.l.map S_Item.D) (zsl e.items.nl 4) none, I e.whole.lo, I e.whole.hi]], 3, false⟩)], 1, 0⟩)
def r_CheckAreas_5_l_o1 (e : S_Estate) (l : GS Int) (i5 : Nat) (x5 : Int) : List Ora := [.rw 20 (I ((l.l.length : Nat) : Int)), .dec true, .el (I x5), .el (.agg [I ((GS.at e.items ((i5 : Nat) : Int)).now.lo), I ((GS.at e.items ((i5 : Nat) : Int)).now.hi), I ((GS.at e.items ((i5 : Nat) : Int)).cost), I ((GS.at e.items ((i5 : Nat) : Int)).error)])]
def r_CheckAreas_5_l_o2 (e : S_Estate) (i5 : Nat) (x5 : Int) : List Ora := [.dec false, .el (I x5), .el (.agg [I ((GS.at e.items ((i5 : Nat) : Int)).now.lo), I ((GS.at e.items ((i5 : Nat) : Int)).now.hi), I ((GS.at e.items ((i5 : Nat) : Int)).cost), I ((GS.at e.items ((i5 : Nat) : Int)).error)])]
theorem lp_r_CheckAreas_5 (e : S_Estate) (l : GS Int) : ∀ (rest5 : List Int) (i5 : Nat) (v5_0 : Int) (hd5 : l.l.drop i5 = rest5) (hi5 : i5 ≤ l.l.length) (hS : l.l.length = e.items.l.length) (hL : l.l.length ≤ 9223372036854775807) (hL5 : l.l.length ≤ 9223372036854775807), (lim cfg).loop 34 lp34_5 ⟨68, [(1, .sl l.nl (l.l.map I) (zsl l.nl 1) none), (2, .lref 0 0 3 0), (5, I v5_0), (6, I ((i5 : Nat) : Int))], [(0, ⟨[.agg [.sl e.items.nl (e.items.l.map S_Item.D) (zsl e.items.nl 4) none, I e.whole.lo, I e.whole.hi]], 3, false⟩)], 1, 0⟩ = some (lr_r_CheckAreas_5 e l (r_CheckAreas_5 e rest5 i5 v5_0)) := by
  intro rest5
  induction rest5 with
  | nil =>
    intro i5 v5_0 hd5 hi5 hS hL hL5
    unfold r_CheckAreas_5
    obtain rfl : i5 = l.l.length := nil_eq hd5 hi5
    exact zH [.rw 20 (I ((l.l.length : Nat) : Int)), .dec false] (And.intro (lt_no hd5) (And.intro (zn I l) trivial)) (by kernel_rfl)
  | cons x5 rest5 ih =>
    intro i5 v5_0 hd5 hi5 hS hL hL5
    have hlt5 := zv hd5
    unfold r_CheckAreas_5
    have p1 := (el_in (s := e.items) (f := S_Item.D) (k := 4) (i := ((i5 : Nat) : Int)) (by first | assumption | omega | (with_reducible exact z9) | (simp only [z8] at * <;> omega) | (simp only [z5, z6, z7, GS.some_l, List.length_set, List.length_append, List.length_cons, List.length_nil] at * <;> first | with_reducible assumption | omega) | (simp only [z5, z6, z7, GS.some_l, List.length_set, List.length_append, List.length_cons, List.length_nil, z8] at * <;> first | with_reducible assumption | omega) | (simp at * <;> omega)) (by first | assumption | omega | (with_reducible exact z9) | (simp only [z8] at * <;> omega) | (simp only [z5, z6, z7, GS.some_l, List.length_set, List.length_append, List.length_cons, List.length_nil] at * <;> first | with_reducible assumption | omega) | (simp only [z5, z6, z7, GS.some_l, List.length_set, List.length_append, List.length_cons, List.length_nil, z8] at * <;> first | with_reducible assumption | omega) | (simp at * <;> omega)))
    cases h5 : decide (x5 < ((GS.at e.items ((i5 : Nat) : Int)).now.lo)) with
    | true =>
      have g5 := of_decide_eq_true h5
      exact zH ((r_CheckAreas_5_l_o1 e l i5 x5) ++ [.dec true]) (And.intro h5 (And.intro p1 (And.intro (el_at (s := l) (f := I) (k := 1) hd5) (And.intro (lt_at hd5) (And.intro (zn I l) trivial))))) (by kernel_rfl)
    | false =>
      have g5 := of_decide_eq_false h5
      have p2 := (el_in (s := e.items) (f := S_Item.D) (k := 4) (i := ((i5 : Nat) : Int)) (by first | assumption | omega | (with_reducible exact z9) | (simp only [z8] at * <;> omega) | (simp only [z5, z6, z7, GS.some_l, List.length_set, List.length_append, List.length_cons, List.length_nil] at * <;> first | with_reducible assumption | omega) | (simp only [z5, z6, z7, GS.some_l, List.length_set, List.length_append, List.length_cons, List.length_nil, z8] at * <;> first | with_reducible assumption | omega) | (simp at * <;> omega)) (by first | assumption | omega | (with_reducible exact z9) | (simp only [z8] at * <;> omega) | (simp only [z5, z6, z7, GS.some_l, List.length_set, List.length_append, List.length_cons, List.length_nil] at * <;> first | with_reducible assumption | omega) | (simp only [z5, z6, z7, GS.some_l, List.length_set, List.length_append, List.length_cons, List.length_nil, z8] at * <;> first | with_reducible assumption | omega) | (simp at * <;> omega)))
      cases h6 : decide (x5 > ((GS.at e.items ((i5 : Nat) : Int)).now.hi)) with
      | true =>
        have g6 := of_decide_eq_true h6
        exact zH ((r_CheckAreas_5_l_o1 e l i5 x5) ++ ((r_CheckAreas_5_l_o2 e i5 x5) ++ [.dec true])) (And.intro h6 (And.intro p2 (And.intro (el_at (s := l) (f := I) (k := 1) hd5) (And.intro h5 (And.intro p1 (And.intro (el_at (s := l) (f := I) (k := 1) hd5) (And.intro (lt_at hd5) (And.intro (zn I l) trivial)))))))) (by kernel_rfl)
      | false =>
        have g6 := of_decide_eq_false h6
        exact po_turn ((r_CheckAreas_5_l_o1 e l i5 x5) ++ ((r_CheckAreas_5_l_o2 e i5 x5) ++ [.dec false, .el (I x5), .rw 23 (I ((i5 + 1 : Nat) : Int))])) (And.intro (inc_rw (i := i5) (by have := zv hd5; omega)) (And.intro (el_at (s := l) (f := I) (k := 1) hd5) (And.intro h6 (And.intro p2 (And.intro (el_at (s := l) (f := I) (k := 1) hd5) (And.intro h5 (And.intro p1 (And.intro (el_at (s := l) (f := I) (k := 1) hd5) (And.intro (lt_at hd5) (And.intro (zn I l) trivial)))))))))) (ih (i5 + 1) (w64 (v5_0 + x5)) (zA hd5) (zv hd5) (by first | assumption | omega | (with_reducible exact z9) | (simp only [z8] at * <;> omega) | (simp only [z5, z6, z7, GS.some_l, List.length_set, List.length_append, List.length_cons, List.length_nil] at * <;> first | with_reducible assumption | omega) | (simp only [z5, z6, z7, GS.some_l, List.length_set, List.length_append, List.length_cons, List.length_nil, z8] at * <;> first | with_reducible assumption | omega) | (simp at * <;> omega)) (by first | assumption | omega | (with_reducible exact z9) | (simp only [z8] at * <;> omega) | (simp only [z5, z6, z7, GS.some_l, List.length_set, List.length_append, List.length_cons, List.length_nil] at * <;> first | with_reducible assumption | omega) | (simp only [z5, z6, z7, GS.some_l, List.length_set, List.length_append, List.length_cons, List.length_nil, z8] at * <;> first | with_reducible assumption | omega) | (simp at * <;> omega)) (by first | assumption | omega | (with_reducible exact z9) | (simp only [z8] at * <;> omega) | (simp only [z5, z6, z7, GS.some_l, List.length_set, List.length_append, List.length_cons, List.length_nil] at * <;> first | with_reducible assumption | omega) | (simp only [z5, z6, z7, GS.some_l, List.length_set, List.length_append, List.length_cons, List.length_nil, z8] at * <;> first | with_reducible assumption | omega) | (simp at * <;> omega))) (by kernel_rfl)

def r_CheckAreas (e : S_Estate) (l : GS Int) : Int :=
  bif (zR e) then
    bif (((l.l.length : Nat) : Int) != ((e.items.l.length : Nat) : Int)) then
      80
    else
      match r_CheckAreas_5 e l.l 0 0 with
      | .x0 v5_0 =>
        bif decide (v5_0 < e.whole.lo) then
          80
        else
          bif decide (v5_0 > e.whole.hi) then
            80
          else
            0
      | .x1 i5 x5 v5_0 =>
        80
      | .x2 i5 x5 v5_0 =>
        80
  else
    80

def r_CheckAreas_o1 (e : S_Estate) (l : GS Int) : List Ora := [.pure (B (zR e)), .dec true, .rw 12 (I ((l.l.length : Nat) : Int)), .rw 15 (I ((e.items.l.length : Nat) : Int)), .dec false]

def sd61 (e : S_Estate) (l : GS Int) (v5_0 : Int) : St := ⟨68, [(21, B false), (20, I ((l.l.length : Nat) : Int)), (19, .sl l.nl (l.l.map I) (zsl l.nl 1) none), (18, I ((l.l.length : Nat) : Int)), (1, .sl l.nl (l.l.map I) (zsl l.nl 1) none), (2, .lref 0 0 3 0), (5, I v5_0), (6, I ((l.l.length : Nat) : Int))], [(0, ⟨[.agg [.sl e.items.nl (e.items.l.map S_Item.D) (zsl e.items.nl 4) none, I e.whole.lo, I e.whole.hi]], 3, false⟩)], 1, 0⟩

def sd62 (e : S_Estate) (l : GS Int) (i5 : Nat) (x5 : Int) (v5_0 : Int) : St := ⟨68, [(4, I 80), (49, B true), (48, .tup []), (47, .tup []), (46, .tup []), (45, .tup []), (44, .tup []), (43, .tup []), (42, .tup []), (41, .tup []), (40, .tup []), (39, .tup []), (38, .tup []), (37, .tup []), (36, B true), (35, B true), (34, I ((GS.at e.items ((i5 : Nat) : Int)).now.lo)), (33, .ptr (I ((GS.at e.items ((i5 : Nat) : Int)).now.lo))), (32, .ptr (.agg [I ((GS.at e.items ((i5 : Nat) : Int)).now.lo), I ((GS.at e.items ((i5 : Nat) : Int)).now.hi)])), (31, .ptr (.agg [I ((GS.at e.items ((i5 : Nat) : Int)).now.lo), I ((GS.at e.items ((i5 : Nat) : Int)).now.hi), I ((GS.at e.items ((i5 : Nat) : Int)).cost), I ((GS.at e.items ((i5 : Nat) : Int)).error)])), (30, I ((i5 : Nat) : Int)), (29, .sl e.items.nl (e.items.l.map S_Item.D) (zsl e.items.nl 4) none), (28, .lref 0 0 3 0), (27, I x5), (26, .ptr (I x5)), (25, I ((i5 : Nat) : Int)), (24, .sl l.nl (l.l.map I) (zsl l.nl 1) none), (21, B true), (20, I ((l.l.length : Nat) : Int)), (19, .sl l.nl (l.l.map I) (zsl l.nl 1) none), (18, I ((i5 : Nat) : Int)), (1, .sl l.nl (l.l.map I) (zsl l.nl 1) none), (2, .lref 0 0 3 0), (5, I v5_0), (6, I ((i5 : Nat) : Int))], [(0, ⟨[.agg [.sl e.items.nl (e.items.l.map S_Item.D) (zsl e.items.nl 4) none, I e.whole.lo, I e.whole.hi]], 3, false⟩)], 1, 0⟩

def sd63 (e : S_Estate) (l : GS Int) (i5 : Nat) (x5 : Int) (v5_0 : Int) : St := ⟨68, [(4, I 80), (49, B true), (48, B true), (47, I ((GS.at e.items ((i5 : Nat) : Int)).now.hi)), (46, .ptr (I ((GS.at e.items ((i5 : Nat) : Int)).now.hi))), (45, .ptr (.agg [I ((GS.at e.items ((i5 : Nat) : Int)).now.lo), I ((GS.at e.items ((i5 : Nat) : Int)).now.hi)])), (44, .ptr (.agg [I ((GS.at e.items ((i5 : Nat) : Int)).now.lo), I ((GS.at e.items ((i5 : Nat) : Int)).now.hi), I ((GS.at e.items ((i5 : Nat) : Int)).cost), I ((GS.at e.items ((i5 : Nat) : Int)).error)])), (43, I ((i5 : Nat) : Int)), (42, .sl e.items.nl (e.items.l.map S_Item.D) (zsl e.items.nl 4) none), (41, .lref 0 0 3 0), (40, I x5), (39, .ptr (I x5)), (38, I ((i5 : Nat) : Int)), (37, .sl l.nl (l.l.map I) (zsl l.nl 1) none), (36, B false), (35, B false), (34, I ((GS.at e.items ((i5 : Nat) : Int)).now.lo)), (33, .ptr (I ((GS.at e.items ((i5 : Nat) : Int)).now.lo))), (32, .ptr (.agg [I ((GS.at e.items ((i5 : Nat) : Int)).now.lo), I ((GS.at e.items ((i5 : Nat) : Int)).now.hi)])), (31, .ptr (.agg [I ((GS.at e.items ((i5 : Nat) : Int)).now.lo), I ((GS.at e.items ((i5 : Nat) : Int)).now.hi), I ((GS.at e.items ((i5 : Nat) : Int)).cost), I ((GS.at e.items ((i5 : Nat) : Int)).error)])), (30, I ((i5 : Nat) : Int)), (29, .sl e.items.nl (e.items.l.map S_Item.D) (zsl e.items.nl 4) none), (28, .lref 0 0 3 0), (27, I x5), (26, .ptr (I x5)), (25, I ((i5 : Nat) : Int)), (24, .sl l.nl (l.l.map I) (zsl l.nl 1) none), (21, B true), (20, I ((l.l.length : Nat) : Int)), (19, .sl l.nl (l.l.map I) (zsl l.nl 1) none), (18, I ((i5 : Nat) : Int)), (1, .sl l.nl (l.l.map I) (zsl l.nl 1) none), (2, .lref 0 0 3 0), (5, I v5_0), (6, I ((i5 : Nat) : Int))], [(0, ⟨[.agg [.sl e.items.nl (e.items.l.map S_Item.D) (zsl e.items.nl 4) none, I e.whole.lo, I e.whole.hi]], 3, false⟩)], 1, 0⟩

theorem T_r_CheckAreas (e : S_Estate) (l : GS Int) (hL : l.l.length ≤ 9223372036854775807) : (lim cfg).pure 34 [S_Estate.D e, GS.D I 1 l] = some (I (r_CheckAreas e l)) := by
  unfold r_CheckAreas
  cases h1 : (zR e) with
  | true =>
    have g1 := valid_len h1
    cases h2 : (((l.l.length : Nat) : Int) != ((e.items.l.length : Nat) : Int)) with
    | true =>
      have g2 := y0 h2
      exact zh [.pure (B (zR e)), .dec true, .rw 12 (I ((l.l.length : Nat) : Int)), .rw 15 (I ((e.items.l.length : Nat) : Int)), .dec true] (And.intro h2 (And.intro (zn S_Item.D e.items) (And.intro (zn I l) (And.intro h1 (And.intro (T_r_Valid e) trivial))))) (by kernel_rfl)
    | false =>
      have g2 := zF h2
      cases h7 : r_CheckAreas_5 e l.l 0 0 with
      | x0 v5_0 =>
        try dsimp only
        have p1 := (po_lr (q := lr_r_CheckAreas_5 e l) (lp_r_CheckAreas_5 e l l.l 0 0 (List.drop_zero) (Nat.zero_le _) (by first | assumption | omega | (with_reducible exact z9) | (simp only [z8] at * <;> omega) | (simp only [z5, z6, z7, GS.some_l, List.length_set, List.length_append, List.length_cons, List.length_nil] at * <;> first | with_reducible assumption | omega) | (simp only [z5, z6, z7, GS.some_l, List.length_set, List.length_append, List.length_cons, List.length_nil, z8] at * <;> first | with_reducible assumption | omega) | (simp at * <;> omega)) (by first | assumption | omega | (with_reducible exact z9) | (simp only [z8] at * <;> omega) | (simp only [z5, z6, z7, GS.some_l, List.length_set, List.length_append, List.length_cons, List.length_nil] at * <;> first | with_reducible assumption | omega) | (simp only [z5, z6, z7, GS.some_l, List.length_set, List.length_append, List.length_cons, List.length_nil, z8] at * <;> first | with_reducible assumption | omega) | (simp at * <;> omega)) (by first | assumption | omega | (with_reducible exact z9) | (simp only [z8] at * <;> omega) | (simp only [z5, z6, z7, GS.some_l, List.length_set, List.length_append, List.length_cons, List.length_nil] at * <;> first | with_reducible assumption | omega) | (simp only [z5, z6, z7, GS.some_l, List.length_set, List.length_append, List.length_cons, List.length_nil, z8] at * <;> first | with_reducible assumption | omega) | (simp at * <;> omega))) h7)
        cases h8 : decide (v5_0 < e.whole.lo) with
        | true =>
          have g8 := of_decide_eq_true h8
          exact zh ((r_CheckAreas_o1 e l) ++ [.loop (.exit 0) (sd61 e l v5_0), .dec true]) (And.intro h8 (And.intro p1 (And.intro h2 (And.intro (zn S_Item.D e.items) (And.intro (zn I l) (And.intro h1 (And.intro (T_r_Valid e) trivial))))))) (by kernel_rfl)
        | false =>
          have g8 := of_decide_eq_false h8
          cases h9 : decide (v5_0 > e.whole.hi) with
          | true =>
            have g9 := of_decide_eq_true h9
            exact zh ((r_CheckAreas_o1 e l) ++ [.loop (.exit 0) (sd61 e l v5_0), .dec false, .dec true]) (And.intro h9 (And.intro h8 (And.intro p1 (And.intro h2 (And.intro (zn S_Item.D e.items) (And.intro (zn I l) (And.intro h1 (And.intro (T_r_Valid e) trivial)))))))) (by kernel_rfl)
          | false =>
            have g9 := of_decide_eq_false h9
            exact zh ((r_CheckAreas_o1 e l) ++ [.loop (.exit 0) (sd61 e l v5_0), .dec false, .dec false]) (And.intro h9 (And.intro h8 (And.intro p1 (And.intro h2 (And.intro (zn S_Item.D e.items) (And.intro (zn I l) (And.intro h1 (And.intro (T_r_Valid e) trivial)))))))) (by kernel_rfl)
      | x1 i5 x5 v5_0 =>
        try dsimp only
        exact zh ((r_CheckAreas_o1 e l) ++ [.loop .ret (sd62 e l i5 x5 v5_0)]) (And.intro (po_lr (q := lr_r_CheckAreas_5 e l) (lp_r_CheckAreas_5 e l l.l 0 0 (List.drop_zero) (Nat.zero_le _) (by first | assumption | omega | (with_reducible exact z9) | (simp only [z8] at * <;> omega) | (simp only [z5, z6, z7, GS.some_l, List.length_set, List.length_append, List.length_cons, List.length_nil] at * <;> first | with_reducible assumption | omega) | (simp only [z5, z6, z7, GS.some_l, List.length_set, List.length_append, List.length_cons, List.length_nil, z8] at * <;> first | with_reducible assumption | omega) | (simp at * <;> omega)) (by first | assumption | omega | (with_reducible exact z9) | (simp only [z8] at * <;> omega) | (simp only [z5, z6, z7, GS.some_l, List.length_set, List.length_append, List.length_cons, List.length_nil] at * <;> first | with_reducible assumption | omega) | (simp only [z5, z6, z7, GS.some_l, List.length_set, List.length_append, List.length_cons, List.length_nil, z8] at * <;> first | with_reducible assumption | omega) | (simp at * <;> omega)) (by first | assumption | omega | (with_reducible exact z9) | (simp only [z8] at * <;> omega) | (simp only [z5, z6, z7, GS.some_l, List.length_set, List.length_append, List.length_cons, List.length_nil] at * <;> first | with_reducible assumption | omega) | (simp only [z5, z6, z7, GS.some_l, List.length_set, List.length_append, List.length_cons, List.length_nil, z8] at * <;> first | with_reducible assumption | omega) | (simp at * <;> omega))) h7) (And.intro h2 (And.intro (zn S_Item.D e.items) (And.intro (zn I l) (And.intro h1 (And.intro (T_r_Valid e) trivial)))))) (by kernel_rfl)
      | x2 i5 x5 v5_0 =>
        try dsimp only
        exact zh ((r_CheckAreas_o1 e l) ++ [.loop .ret (sd63 e l i5 x5 v5_0)]) (And.intro (po_lr (q := lr_r_CheckAreas_5 e l) (lp_r_CheckAreas_5 e l l.l 0 0 (List.drop_zero) (Nat.zero_le _) (by first | assumption | omega | (with_reducible exact z9) | (simp only [z8] at * <;> omega) | (simp only [z5, z6, z7, GS.some_l, List.length_set, List.length_append, List.length_cons, List.length_nil] at * <;> first | with_reducible assumption | omega) | (simp only [z5, z6, z7, GS.some_l, List.length_set, List.length_append, List.length_cons, List.length_nil, z8] at * <;> first | with_reducible assumption | omega) | (simp at * <;> omega)) (by first | assumption | omega | (with_reducible exact z9) | (simp only [z8] at * <;> omega) | (simp only [z5, z6, z7, GS.some_l, List.length_set, List.length_append, List.length_cons, List.length_nil] at * <;> first | with_reducible assumption | omega) | (simp only [z5, z6, z7, GS.some_l, List.length_set, List.length_append, List.length_cons, List.length_nil, z8] at * <;> first | with_reducible assumption | omega) | (simp at * <;> omega)) (by first | assumption | omega | (with_reducible exact z9) | (simp only [z8] at * <;> omega) | (simp only [z5, z6, z7, GS.some_l, List.length_set, List.length_append, List.length_cons, List.length_nil] at * <;> first | with_reducible assumption | omega) | (simp only [z5, z6, z7, GS.some_l, List.length_set, List.length_append, List.length_cons, List.length_nil, z8] at * <;> first | with_reducible assumption | omega) | (simp at * <;> omega))) h7) (And.intro h2 (And.intro (zn S_Item.D e.items) (And.intro (zn I l) (And.intro h1 (And.intro (T_r_Valid e) trivial)))))) (by kernel_rfl)
  | false =>
    exact zh [.pure (B (zR e)), .dec false] (And.intro h1 (And.intro (T_r_Valid e) trivial)) (by kernel_rfl)

theorem rareas_len {e : S_Estate} {l : GS Int} (h : r_CheckAreas e l = 0) : l.l.length = e.items.l.length := by
  unfold r_CheckAreas at h
  cases hv : zR e with
  | false => rw [hv] at h; simp at h
  | true =>
    rw [hv] at h
    cases hl : (((l.l.length : Nat) : Int) != ((e.items.l.length : Nat) : Int)) with
    | true => rw [hl] at h; simp at h
    | false => have := zF hl; omega

theorem rright_all {e : S_Estate} {items : GS Int} (hL : items.l.length ≤ 9223372036854775807) (hn : 1 ≤ e.items.l.length ∧ e.items.l.length ≤ 12) (h : r_Right e items = true) : (∀ i ∈ items.l, 0 ≤ i ∧ i < ((e.items.l.length : Nat) : Int)) ∧ items.l.length ≤ 12 := by
  have h' := (rright_iff hL).1 h
  refine ⟨inc_mem h', ?_⟩
  by_cases hn' : items.l = []
  · rw [hn']; simp
  · have := inc_len h' (by omega) hn'
    omega
end Go.VS
namespace Go.VS
open Go Go.Proofs
set_option maxHeartbeats 0
set_option linter.unusedSimpArgs false
set_option linter.unusedVariables false
theorem shown_len {e : S_Estate} {items : GS Int} {s : Int} : (orders_shown e items s).l.length = items.l.length := by
  have key : ∀ (l : List Int) (n : Int) (v : List Int), ∃ m w, orders_shown_3a e s l n v = .x0 m w ∧ w.length = v.length + l.length := by
    intro l
    induction l with
    | nil => intro n v; exact ⟨n, v, rfl, by simp⟩
    | cons x l ih =>
      intro n v
      unfold orders_shown_3a
      obtain ⟨m, w, h1, h2⟩ := ih (w64 (n - (zV n (zq (GS.at e.items x))))) (v ++ [w64 ((w64 (((GS.at e.items x).now.lo) + ((GS.at e.items x).error))) + (zV n (zq (GS.at e.items x))))])
      exact ⟨m, w, h1, by rw [h2]; simp; omega⟩
  unfold orders_shown
  cases items.l with
  | nil => rfl
  | cons x l =>
    unfold orders_shown_3
    dsimp only
    obtain ⟨m, w, h1, h2⟩ := key l (w64 (s - (zV s (zq (GS.at e.items x))))) [w64 ((w64 (((GS.at e.items x).now.lo) + ((GS.at e.items x).error))) + (zV s (zq (GS.at e.items x))))]
    rw [h1]
    simp [GS.some, h2]
    omega
theorem zb {e : S_Estate} {items : GS Int} {low high : Int} : (orders_Open e items low high).1.l.length ≤ items.l.length := by
  have h1 : (orders_open e items low high).1.l.length ≤ items.l.length := by
    unfold orders_open
    simp only [Bool.cond_decide]
    split
    · simp [GS.nil]
    · split
      · simp [GS.nil]
      · split
        · simp [GS.nil]
        · simp [shown_len]
  unfold orders_Open
  cases (orders_bounds e items low high != 0) with
  | true => simp [GS.nil]
  | false => cases (orders_open e items low high).2 <;> exact h1
end Go.VS
/-
  Orders: what measurements leave. (A text of this claim's own; nothing of it is trusted.)
-/
namespace Go.VS
set_option maxHeartbeats 0
/-- An item behind a measurement. -/
def nar (y : S_Item) (s : Int) : S_Item := ⟨⟨max y.now.lo (s - y.error), min y.now.hi (s + y.error)⟩, y.cost, y.error⟩
def OkShown (l : List Int) : Prop := ∀ s ∈ l, -1048576 ≤ s ∧ s ≤ 1074790400
theorem contF_eq {s : GS Int} (h : OkShown s.l) : zQ s = false := by
  have key : ∀ (l : List Int) (i : Nat), OkShown l → slices_IndexFunc_2 l i = .x0 := by
    intro l
    induction l with
    | nil => intro i _; rfl
    | cons x l ih =>
      intro i h
      have hx := h x List.mem_cons_self
      unfold slices_IndexFunc_2 orders_Measured_1
      rw [within_iff.2 hx]
      exact ih (i + 1) fun y hy => h y (List.mem_cons_of_mem _ hy)
  unfold zQ slices_IndexFunc
  rw [key s.l 0 h]
  rfl
theorem getD_of {α : Type} [Inhabited α] {l : List α} {i : Nat} {x : α} (h : l[i]? = some x) : l.getD i default = x := by rw [List.getD_eq_getElem?_getD, h]; rfl
/-- One round of measuring. -/
theorem meas_step {shown : GS Int} {x s : Int} {its : List Int} {i : Nat} {v : List S_Item} {y : S_Item} (hx : v[x.toNat]? = some y) (hy : OkItem y) (hs : shown.at (i : Int) = s) (hb : -1048576 ≤ s ∧ s ≤ 1074790400) (hne : max y.now.lo (s - y.error) ≤ min y.now.hi (s + y.error)) :
    zC shown (x :: its) i v = zC shown its (i + 1) (v.set x.toNat (nar y s)) := by
  obtain ⟨a1, a2, a3, a4, a5, a6, a7⟩ := hy
  conv => lhs; unfold zC
  rw [getD_of hx, hs, w64_eq (n := s - y.error) (by omega) (by omega), w64_eq (n := s + y.error) (by omega) (by omega), common_eq]
  simp only []
  rw [decide_eq_true hne]
  rfl
theorem ok_set {v : List S_Item} {i : Nat} {z : S_Item} (h : ∀ y ∈ v, OkItem y) (hz : OkItem z) : ∀ y ∈ v.set i z, OkItem y := by
  intro y hy
  rcases List.mem_or_eq_of_mem_set hy with hy | rfl
  · exact h y hy
  · exact hz
theorem keep_set {e : S_Estate} {v : List S_Item} {x n : Int} {its : List Int} {z : S_Item} (h0 : 0 ≤ x) (hi : inc x n its) (h : ∀ j ∈ its, v[j.toNat]? = some (e.items.at j)) : ∀ j ∈ its, (v.set x.toNat z)[j.toNat]? = some (e.items.at j) := by
  intro j hj
  have := inc_lt hi j hj
  rw [List.getElem?_set_ne (by omega)]
  exact h j hj
/-- What Attain shows. -/
def spr (e : S_Estate) : List Int → Int → List Int
  | [], _ => []
  | x :: l, r => ((e.items.at x).now.lo + (e.items.at x).error + min r (gn (e.items.at x))) :: spr e l (r - min r (gn (e.items.at x)))
theorem measA {e : S_Estate} {shown : GS Int} {n : Int} : ∀ (its : List Int) (i : Nat) (v : List S_Item) (r p : Int), inc p n its → shown.l.drop i = spr e its r → OkShown shown.l → 0 ≤ r → (∀ j ∈ its, v[j.toNat]? = some (e.items.at j)) → (∀ y ∈ v, OkItem y) →
    ∃ v', zC shown its i v = .x0 v' ∧ v'.length = v.length ∧ (∀ y ∈ v', OkItem y) ∧ sLo v' = sLo v + min r (tot (gs e its)) ∧ sHi v' - sLo v' = sHi v - sLo v - tot (gs e its) ∧ 0 ≤ tot (gs e its)
  | [], i, v, r, p, _, _, _, h0, _, hok => ⟨v, rfl, rfl, hok, by simp [gs, tot]; omega, by simp [gs, tot], by simp [gs, tot]⟩
  | x :: its, i, v, r, p, hi, hd, hs, h0, hv, hok => by
    have hx := hv x List.mem_cons_self
    have hy : OkItem (e.items.at x) := hok _ (List.mem_of_getElem? hx)
    have hg := gn_bd hy
    have hsx := at_of hd
    have hsm := hs _ (mem_drop hd)
    obtain ⟨a1, a2, a3, a4, a5, a6, a7⟩ := hy
    have hgn : gn (e.items.at x) = max 0 ((e.items.at x).now.hi - (e.items.at x).now.lo - 2 * (e.items.at x).error) := rfl
    have hz : OkItem (nar (e.items.at x) ((e.items.at x).now.lo + (e.items.at x).error + min r (gn (e.items.at x)))) := by
      refine ⟨?_, ?_, ?_, a4, a5, a6, a7⟩ <;> simp only [nar] <;> omega
    rw [meas_step hx ⟨a1, a2, a3, a4, a5, a6, a7⟩ hsx hsm (by omega)]
    obtain ⟨v', k1, k2, k3, k4, k5, k6⟩ := measA its (i + 1) (v.set x.toNat (nar (e.items.at x) ((e.items.at x).now.lo + (e.items.at x).error + min r (gn (e.items.at x))))) (r - min r (gn (e.items.at x))) x hi.2.2.2 (zA hd) hs (by omega) (keep_set hi.2.1 hi.2.2.2 (fun j hj => hv j (List.mem_cons_of_mem _ hj))) (ok_set hok hz)
    obtain ⟨e1, e2⟩ := put_sums (z := nar (e.items.at x) ((e.items.at x).now.lo + (e.items.at x).error + min r (gn (e.items.at x)))) hx
    simp only [nar] at e1 e2 k4 k5
    refine ⟨v', k1, by rw [k2, List.length_set], k3, ?_, ?_, ?_⟩
    · simp only [gs, List.map_cons, tot] at *; omega
    · simp only [gs, List.map_cons, tot] at *; omega
    · simp only [gs, List.map_cons, tot] at *; omega
theorem in_set : ∀ {v : List S_Item} {a : List Int} {i : Nat} {z : S_Item} {b : Int}, In v a → a[i]? = some b → z.now.lo ≤ b → b ≤ z.now.hi → In (v.set i z) a
  | [], [], _, _, _, _, h, _, _ => by simp at h
  | [], _ :: _, _, _, _, h, _, _, _ => h.elim
  | _ :: _, [], _, _, _, h, _, _, _ => h.elim
  | w :: v, c :: a, 0, z, b, h, h1, h2, h3 => by simp at h1; subst h1; exact ⟨⟨h2, h3⟩, h.2⟩
  | w :: v, c :: a, i + 1, z, b, h, h1, h2, h3 => ⟨h.1, in_set h.2 (by simpa using h1) h2 h3⟩
/-- Measurements that show of areas what they can show. -/
def Shows (e : S_Estate) (areas : GS Int) : List Int → List Int → Prop
  | [], [] => True
  | x :: l, s :: ss => (areas.at x - (e.items.at x).error ≤ s ∧ s ≤ areas.at x + (e.items.at x).error) ∧ Shows e areas l ss
  | _, _ => False
theorem measB {e : S_Estate} {areas shown : GS Int} {n : Int} : ∀ (its : List Int) (i : Nat) (v : List S_Item) (p : Int), inc p n its → Shows e areas its (shown.l.drop i) → OkShown shown.l → (∀ j ∈ its, v[j.toNat]? = some (e.items.at j)) → (∀ j ∈ its, areas.l[j.toNat]? = some (areas.at j)) → (∀ y ∈ v, OkItem y) → In v areas.l →
    ∃ v', zC shown its i v = .x0 v' ∧ v'.length = v.length ∧ (∀ y ∈ v', OkItem y) ∧ In v' areas.l ∧ sLo v ≤ sLo v' ∧ sHi v' ≤ sHi v ∧ sHi v' - sLo v' ≤ sHi v - sLo v - tot (gs e its)
  | [], i, v, p, _, _, _, _, _, hok, hin => ⟨v, rfl, rfl, hok, hin, Int.le_refl _, Int.le_refl _, by simp [gs, tot]⟩
  | x :: its, i, v, p, hi, hS, hs, hv, ha, hok, hin => by
    have hx := hv x List.mem_cons_self
    have hax := ha x List.mem_cons_self
    have hy : OkItem (e.items.at x) := hok _ (List.mem_of_getElem? hx)
    obtain ⟨s, ss, hd⟩ : ∃ s ss, shown.l.drop i = s :: ss := by
      cases hh : shown.l.drop i with
      | nil => rw [hh] at hS; exact hS.elim
      | cons s ss => exact ⟨s, ss, rfl⟩
    rw [hd] at hS
    have hS1 := hS.1
    have hsx := at_of hd
    have hsm := hs _ (mem_drop hd)
    have hia := (in_at hin hx hax).1
    obtain ⟨a1, a2, a3, a4, a5, a6, a7⟩ := hy
    have hgn : gn (e.items.at x) = max 0 ((e.items.at x).now.hi - (e.items.at x).now.lo - 2 * (e.items.at x).error) := rfl
    have hz : OkItem (nar (e.items.at x) s) := by
      refine ⟨?_, ?_, ?_, a4, a5, a6, a7⟩ <;> simp only [nar] <;> omega
    rw [meas_step hx ⟨a1, a2, a3, a4, a5, a6, a7⟩ hsx hsm (by omega)]
    obtain ⟨v', k1, k2, k3, k4, k5, k6, k7⟩ := measB its (i + 1) (v.set x.toNat (nar (e.items.at x) s)) x hi.2.2.2 (by rw [zA hd]; exact hS.2) hs (keep_set hi.2.1 hi.2.2.2 (fun j hj => hv j (List.mem_cons_of_mem _ hj))) (fun j hj => ha j (List.mem_cons_of_mem _ hj)) (ok_set hok hz) (in_set hin hax (by simp only [nar]; omega) (by simp only [nar]; omega))
    obtain ⟨e1, e2⟩ := put_sums (z := nar (e.items.at x) s) hx
    simp only [nar] at e1 e2 k5 k6 k7
    refine ⟨v', k1, by rw [k2, List.length_set], k3, k4, by omega, by omega, ?_⟩
    simp only [gs, List.map_cons, tot] at *; omega
theorem all_got {e : S_Estate} {its : List Int} {p : Int} (hi : inc p (e.items.l.length : Int) its) : ∀ j ∈ its, e.items.l[j.toNat]? = some (e.items.at j) := by
  intro j hj
  have := inc_mem hi j hj
  have hlt : j.toNat < e.items.l.length := by omega
  rw [GS.at, List.getD_eq_getElem?_getD, List.getElem?_eq_getElem hlt]; rfl
/-- Measured, its loop being known. -/
theorem measured_eq {e : S_Estate} (h : V e) {items shown : GS Int} (hL : items.l.length ≤ 9223372036854775807) (hi : inc (-1) (e.items.l.length : Int) items.l) (hl : shown.l.length = items.l.length) (hs : OkShown shown.l) {v : List S_Item} (hv : zC shown items.l 0 e.items.l = .x0 v) (hn : v.length = e.items.l.length) (hok : ∀ y ∈ v, OkItem y) (hc : max (sLo v) e.whole.lo ≤ min (sHi v) e.whole.hi) :
    zJ e items shown = (⟨GS.some v, e.whole⟩, 0) ∧ V ⟨GS.some v, e.whole⟩ := by
  have hn1 := h.n1; have hn2 := h.n2; have := h.w1
  have hsp : OkSpans (⟨GS.some v, e.whole⟩ : S_Estate).items.l := okSpans_of hok
  constructor
  · unfold zJ
    rw [right_of hL h hi, contF_eq hs, hv]
    have e1 : (((shown.l.length : Nat) : Int) != ((items.l.length : Nat) : Int)) = false := by rw [hl]; exact bne_self_eq_false _
    rw [e1]
    simp only [bne_self_eq_false, cond_false]
    rw [all_eq hsp (by show v.length ≤ 12; omega), common_eq]
    simp only []
    have : decide (max (sLo v) e.whole.lo ≤ min (sHi v) e.whole.hi) = true := decide_eq_true hc
    rw [show decide (max (sLo (⟨GS.some v, e.whole⟩ : S_Estate).items.l) e.whole.lo ≤ min (sHi (⟨GS.some v, e.whole⟩ : S_Estate).items.l) e.whole.hi) = true from this]
    rfl
  · exact ⟨by show 1 ≤ v.length; omega, by show v.length ≤ 12; omega, h.w0, h.w1, h.w2, hok, by show sLo v ≤ e.whole.hi; omega, by show e.whole.lo ≤ sHi v; omega⟩
end Go.VS
namespace Go.VS
open Go Go.Proofs
set_option maxHeartbeats 0
set_option linter.unusedSimpArgs false
set_option linter.unusedVariables false
def r_Total (e : S_Estate) : Int :=
  w64 (((r_All e).hi) - ((r_All e).lo))

theorem T_r_Total (e : S_Estate) (hL_e_items : e.items.l.length ≤ 9223372036854775807) : (lim cfg).pure 55 [S_Estate.D e] = some (I (r_Total e)) := by
  unfold r_Total
  exact zh [.pure (.agg [I ((r_All e).lo), I ((r_All e).hi)])] (And.intro (T_r_All e (by first | assumption | omega | (with_reducible exact z9) | (with_reducible exact Nat.le_trans zb (by omega)) | (simp only [z8] at * <;> omega) | (simp only [z5, z6, z7, GS.some_l, List.length_set, List.length_append, List.length_cons, List.length_nil] at * <;> first | with_reducible assumption | omega) | (simp only [z5, z6, z7, GS.some_l, List.length_set, List.length_append, List.length_cons, List.length_nil, z8] at * <;> first | with_reducible assumption | omega) | (simp at * <;> omega))) trivial) (by kernel_rfl)

def zW (x : S_Item) : Int :=
  imax (w64 ((w64 (x.now.hi - x.now.lo)) - (w64 (2 * x.error)))) 0

theorem T_r_Gain (x : S_Item) : (lim cfg).pure 80 [S_Item.D x] = some (I (zW x)) := by
  unfold zW
  exact zh [] (trivial) (by kernel_rfl)

def r_first (e : S_Estate) (items : GS Int) : Int :=
  bif (zR e) then
    bif (r_Right e items) then
      0
    else
      1
  else
    80

theorem T_r_first (e : S_Estate) (items : GS Int) (hL : items.l.length ≤ 9223372036854775807) : (lim cfg).pure 70 [S_Estate.D e, GS.D I 1 items] = some (I (r_first e items)) := by
  unfold r_first
  cases h1 : (zR e) with
  | true =>
    have g1 := valid_len h1
    cases h2 : (r_Right e items) with
    | true =>
      obtain ⟨gb2, g2⟩ := rright_all (by assumption) (by assumption) h2
      exact zh [.pure (B (zR e)), .dec true, .pure (B (r_Right e items)), .dec true] (And.intro h2 (And.intro (T_r_Right e items (by first | assumption | omega | (with_reducible exact z9) | (with_reducible exact Nat.le_trans zb (by omega)) | (simp only [z8] at * <;> omega) | (simp only [z5, z6, z7, GS.some_l, List.length_set, List.length_append, List.length_cons, List.length_nil] at * <;> first | with_reducible assumption | omega) | (simp only [z5, z6, z7, GS.some_l, List.length_set, List.length_append, List.length_cons, List.length_nil, z8] at * <;> first | with_reducible assumption | omega) | (simp at * <;> omega))) (And.intro h1 (And.intro (T_r_Valid e) trivial)))) (by kernel_rfl)
    | false =>
      exact zh [.pure (B (zR e)), .dec true, .pure (B (r_Right e items)), .dec false] (And.intro h2 (And.intro (T_r_Right e items (by first | assumption | omega | (with_reducible exact z9) | (with_reducible exact Nat.le_trans zb (by omega)) | (simp only [z8] at * <;> omega) | (simp only [z5, z6, z7, GS.some_l, List.length_set, List.length_append, List.length_cons, List.length_nil] at * <;> first | with_reducible assumption | omega) | (simp only [z5, z6, z7, GS.some_l, List.length_set, List.length_append, List.length_cons, List.length_nil, z8] at * <;> first | with_reducible assumption | omega) | (simp at * <;> omega))) (And.intro h1 (And.intro (T_r_Valid e) trivial)))) (by kernel_rfl)
  | false =>
    exact zh [.pure (B (zR e)), .dec false] (And.intro h1 (And.intro (T_r_Valid e) trivial)) (by kernel_rfl)

theorem rfirst_iff {e : S_Estate} {items : GS Int} : r_first e items = 0 ↔ zR e = true ∧ r_Right e items = true := by
  unfold r_first
  cases zR e <;> cases r_Right e items <;> simp
theorem rfirst_ok {e : S_Estate} {items : GS Int} (hL : items.l.length ≤ 9223372036854775807) (h : r_first e items = 0) : (1 ≤ e.items.l.length ∧ e.items.l.length ≤ 12 ∧ items.l.length ≤ 12) ∧ ∀ i ∈ items.l, 0 ≤ i ∧ i < ((e.items.l.length : Nat) : Int) := by
  obtain ⟨h1, h2⟩ := rfirst_iff.1 h
  have hl := valid_len h1
  obtain ⟨h3, h4⟩ := rright_all hL hl h2
  exact ⟨⟨hl.1, hl.2, h4⟩, h3⟩

def r_part (e : S_Estate) (t : Int) (from_ : Int) : Int :=
  w64 ((zV (w64 (from_ + t)) e.whole.hi) - (imax from_ e.whole.lo))

theorem T_r_part (e : S_Estate) (t : Int) (from_ : Int) : (lim cfg).pure 97 [S_Estate.D e, I t, I from_] = some (I (r_part e t from_)) := by
  unfold r_part
  exact zh [] (trivial) (by kernel_rfl)

def r_widest (e : S_Estate) (t : Int) : Int :=
  zV (imax (zV e.whole.lo (w64 (e.whole.hi - t))) ((r_All e).lo)) (w64 (((r_All e).hi) - t))

theorem T_r_widest (e : S_Estate) (t : Int) (hL_e_items : e.items.l.length ≤ 9223372036854775807) : (lim cfg).pure 78 [S_Estate.D e, I t] = some (I (r_widest e t)) := by
  unfold r_widest
  exact zh [.pure (.agg [I ((r_All e).lo), I ((r_All e).hi)])] (And.intro (T_r_All e (by first | assumption | omega | (with_reducible exact z9) | (with_reducible exact Nat.le_trans zb (by omega)) | (simp only [z8] at * <;> omega) | (simp only [z5, z6, z7, GS.some_l, List.length_set, List.length_append, List.length_cons, List.length_nil] at * <;> first | with_reducible assumption | omega) | (simp only [z5, z6, z7, GS.some_l, List.length_set, List.length_append, List.length_cons, List.length_nil, z8] at * <;> first | with_reducible assumption | omega) | (simp at * <;> omega))) trivial) (by kernel_rfl)

def r_W (e : S_Estate) (t : Int) : Int :=
  (r_part e t (r_widest e t))

theorem T_r_W (e : S_Estate) (t : Int) (hL_e_items : e.items.l.length ≤ 9223372036854775807) : (lim cfg).pure 56 [S_Estate.D e, I t] = some (I (r_W e t)) := by
  unfold r_W
  exact zh [.pure (I (r_widest e t)), .pure (I (r_part e t (r_widest e t)))] (And.intro (T_r_part e t (r_widest e t)) (And.intro (T_r_widest e t (by first | assumption | omega | (with_reducible exact z9) | (with_reducible exact Nat.le_trans zb (by omega)) | (simp only [z8] at * <;> omega) | (simp only [z5, z6, z7, GS.some_l, List.length_set, List.length_append, List.length_cons, List.length_nil] at * <;> first | with_reducible assumption | omega) | (simp only [z5, z6, z7, GS.some_l, List.length_set, List.length_append, List.length_cons, List.length_nil, z8] at * <;> first | with_reducible assumption | omega) | (simp at * <;> omega))) trivial)) (by kernel_rfl)
end Go.VS
namespace Go.VS
open Go Go.Proofs
set_option maxHeartbeats 0
set_option linter.unusedSimpArgs false
set_option linter.unusedVariables false
noncomputable def lp57_3 : Code := subC [1, 1, 0, 1, 0, 0] (bodyC Tryz.f57)

inductive LR_r_gains_3 where
  | x0 (v3_0 : Int)
instance : Inhabited LR_r_gains_3 := ⟨.x0 default⟩
def r_gains_3 (e : S_Estate) : List Int → Int → LR_r_gains_3
  | [], v3_0 => .x0 v3_0
  | x3 :: rest3, v3_0 =>
    r_gains_3 e rest3 (w64 (v3_0 + (zW (GS.at e.items x3))))
def lr_r_gains_3 (e : S_Estate) (items : GS Int) : LR_r_gains_3 → Exit × St
  | .x0 v3_0 => ((.exit 0), ⟨25, [(10, B false), (9, I ((items.l.length : Nat) : Int)), (8, .sl items.nl (items.l.map I) (zsl items.nl 1) none), (7, I ((items.l.length : Nat) : Int)), (1, .sl items.nl (items.l.map I) (zsl items.nl 1) none), (2, .lref 0 0 3 0), (5, I v3_0), (6, I ((items.l.length : Nat) : Int))], [(0, ⟨[.agg [.sl e.items.nl (e.items.l.map S_Item.D) (zsl e.items.nl 4) none, I e.whole.lo, I e.whole.hi]], 3, false⟩)], 1, 0⟩)
theorem lp_r_gains_3 (e : S_Estate) (items : GS Int) : ∀ (rest3 : List Int) (i3 : Nat) (v3_0 : Int) (hd3 : items.l.drop i3 = rest3) (hi3 : i3 ≤ items.l.length) (hall : ∀ i ∈ items.l, 0 ≤ i ∧ i < ((e.items.l.length : Nat) : Int)) (hL3 : items.l.length ≤ 9223372036854775807), (lim cfg).loop 57 lp57_3 ⟨25, [(1, .sl items.nl (items.l.map I) (zsl items.nl 1) none), (2, .lref 0 0 3 0), (5, I v3_0), (6, I ((i3 : Nat) : Int))], [(0, ⟨[.agg [.sl e.items.nl (e.items.l.map S_Item.D) (zsl e.items.nl 4) none, I e.whole.lo, I e.whole.hi]], 3, false⟩)], 1, 0⟩ = some (lr_r_gains_3 e items (r_gains_3 e rest3 v3_0)) := by
  intro rest3
  induction rest3 with
  | nil =>
    intro i3 v3_0 hd3 hi3 hall hL3
    unfold r_gains_3
    obtain rfl : i3 = items.l.length := nil_eq hd3 hi3
    exact zH [.rw 9 (I ((items.l.length : Nat) : Int)), .dec false] (And.intro (lt_no hd3) (And.intro (zn I items) trivial)) (by kernel_rfl)
  | cons x3 rest3 ih =>
    intro i3 v3_0 hd3 hi3 hall hL3
    have hlt3 := zv hd3
    have hbx := hall x3 (mem_drop hd3)
    unfold r_gains_3
    exact po_turn [.rw 9 (I ((items.l.length : Nat) : Int)), .dec true, .el (I x3), .el (.agg [I ((GS.at e.items x3).now.lo), I ((GS.at e.items x3).now.hi), I ((GS.at e.items x3).cost), I ((GS.at e.items x3).error)]), .pure (I (zW (GS.at e.items x3))), .rw 12 (I ((i3 + 1 : Nat) : Int))] (And.intro (inc_rw (i := i3) (by have := zv hd3; omega)) (And.intro (T_r_Gain (GS.at e.items x3)) (And.intro (el_in (s := e.items) (f := S_Item.D) (k := 4) (i := x3) (by first | assumption | omega | (with_reducible exact z9) | (with_reducible exact Nat.le_trans zb (by omega)) | (simp only [z8] at * <;> omega) | (simp only [z5, z6, z7, GS.some_l, List.length_set, List.length_append, List.length_cons, List.length_nil] at * <;> first | with_reducible assumption | omega) | (simp only [z5, z6, z7, GS.some_l, List.length_set, List.length_append, List.length_cons, List.length_nil, z8] at * <;> first | with_reducible assumption | omega) | (simp at * <;> omega)) (by first | assumption | omega | (with_reducible exact z9) | (with_reducible exact Nat.le_trans zb (by omega)) | (simp only [z8] at * <;> omega) | (simp only [z5, z6, z7, GS.some_l, List.length_set, List.length_append, List.length_cons, List.length_nil] at * <;> first | with_reducible assumption | omega) | (simp only [z5, z6, z7, GS.some_l, List.length_set, List.length_append, List.length_cons, List.length_nil, z8] at * <;> first | with_reducible assumption | omega) | (simp at * <;> omega))) (And.intro (el_at (s := items) (f := I) (k := 1) hd3) (And.intro (lt_at hd3) (And.intro (zn I items) trivial)))))) (ih (i3 + 1) (w64 (v3_0 + (zW (GS.at e.items x3)))) (zA hd3) (zv hd3) (by first | assumption | omega | (with_reducible exact z9) | (with_reducible exact Nat.le_trans zb (by omega)) | (simp only [z8] at * <;> omega) | (simp only [z5, z6, z7, GS.some_l, List.length_set, List.length_append, List.length_cons, List.length_nil] at * <;> first | with_reducible assumption | omega) | (simp only [z5, z6, z7, GS.some_l, List.length_set, List.length_append, List.length_cons, List.length_nil, z8] at * <;> first | with_reducible assumption | omega) | (simp at * <;> omega)) (by first | assumption | omega | (with_reducible exact z9) | (with_reducible exact Nat.le_trans zb (by omega)) | (simp only [z8] at * <;> omega) | (simp only [z5, z6, z7, GS.some_l, List.length_set, List.length_append, List.length_cons, List.length_nil] at * <;> first | with_reducible assumption | omega) | (simp only [z5, z6, z7, GS.some_l, List.length_set, List.length_append, List.length_cons, List.length_nil, z8] at * <;> first | with_reducible assumption | omega) | (simp at * <;> omega))) (by kernel_rfl)

def r_gains (e : S_Estate) (items : GS Int) : Int :=
  match r_gains_3 e items.l 0 with
  | .x0 v3_0 =>
    v3_0

def sd64 (e : S_Estate) (items : GS Int) (v3_0 : Int) : St := ⟨25, [(10, B false), (9, I ((items.l.length : Nat) : Int)), (8, .sl items.nl (items.l.map I) (zsl items.nl 1) none), (7, I ((items.l.length : Nat) : Int)), (1, .sl items.nl (items.l.map I) (zsl items.nl 1) none), (2, .lref 0 0 3 0), (5, I v3_0), (6, I ((items.l.length : Nat) : Int))], [(0, ⟨[.agg [.sl e.items.nl (e.items.l.map S_Item.D) (zsl e.items.nl 4) none, I e.whole.lo, I e.whole.hi]], 3, false⟩)], 1, 0⟩

theorem T_r_gains (e : S_Estate) (items : GS Int) (hall : ∀ i ∈ items.l, 0 ≤ i ∧ i < ((e.items.l.length : Nat) : Int)) (hL_items : items.l.length ≤ 9223372036854775807) : (lim cfg).pure 57 [S_Estate.D e, GS.D I 1 items] = some (I (r_gains e items)) := by
  unfold r_gains
  cases h1 : r_gains_3 e items.l 0 with
  | x0 v3_0 =>
    try dsimp only
    exact zh [.loop (.exit 0) (sd64 e items v3_0)] (And.intro (po_lr (q := lr_r_gains_3 e items) (lp_r_gains_3 e items items.l 0 0 (List.drop_zero) (Nat.zero_le _) (by first | assumption | omega | (with_reducible exact z9) | (with_reducible exact Nat.le_trans zb (by omega)) | (simp only [z8] at * <;> omega) | (simp only [z5, z6, z7, GS.some_l, List.length_set, List.length_append, List.length_cons, List.length_nil] at * <;> first | with_reducible assumption | omega) | (simp only [z5, z6, z7, GS.some_l, List.length_set, List.length_append, List.length_cons, List.length_nil, z8] at * <;> first | with_reducible assumption | omega) | (simp at * <;> omega)) (by first | assumption | omega | (with_reducible exact z9) | (with_reducible exact Nat.le_trans zb (by omega)) | (simp only [z8] at * <;> omega) | (simp only [z5, z6, z7, GS.some_l, List.length_set, List.length_append, List.length_cons, List.length_nil] at * <;> first | with_reducible assumption | omega) | (simp only [z5, z6, z7, GS.some_l, List.length_set, List.length_append, List.length_cons, List.length_nil, z8] at * <;> first | with_reducible assumption | omega) | (simp at * <;> omega))) h1) trivial) (by kernel_rfl)

noncomputable def lp79_3 : Code := subC [1, 1, 0, 1, 0, 0] (bodyC Tryz.f79)

inductive LR_r_costs_3 where
  | x0 (v3_0 : Int)
instance : Inhabited LR_r_costs_3 := ⟨.x0 default⟩
def r_costs_3 (e : S_Estate) : List Int → Int → LR_r_costs_3
  | [], v3_0 => .x0 v3_0
  | x3 :: rest3, v3_0 =>
    r_costs_3 e rest3 (w64 (v3_0 + ((GS.at e.items x3).cost)))
def lr_r_costs_3 (e : S_Estate) (items : GS Int) : LR_r_costs_3 → Exit × St
  | .x0 v3_0 => ((.exit 0), ⟨25, [(10, B false), (9, I ((items.l.length : Nat) : Int)), (8, .sl items.nl (items.l.map I) (zsl items.nl 1) none), (7, I ((items.l.length : Nat) : Int)), (1, .sl items.nl (items.l.map I) (zsl items.nl 1) none), (2, .lref 0 0 3 0), (5, I v3_0), (6, I ((items.l.length : Nat) : Int))], [(0, ⟨[.agg [.sl e.items.nl (e.items.l.map S_Item.D) (zsl e.items.nl 4) none, I e.whole.lo, I e.whole.hi]], 3, false⟩)], 1, 0⟩)
theorem lp_r_costs_3 (e : S_Estate) (items : GS Int) : ∀ (rest3 : List Int) (i3 : Nat) (v3_0 : Int) (hd3 : items.l.drop i3 = rest3) (hi3 : i3 ≤ items.l.length) (hall : ∀ i ∈ items.l, 0 ≤ i ∧ i < ((e.items.l.length : Nat) : Int)) (hL3 : items.l.length ≤ 9223372036854775807), (lim cfg).loop 79 lp79_3 ⟨25, [(1, .sl items.nl (items.l.map I) (zsl items.nl 1) none), (2, .lref 0 0 3 0), (5, I v3_0), (6, I ((i3 : Nat) : Int))], [(0, ⟨[.agg [.sl e.items.nl (e.items.l.map S_Item.D) (zsl e.items.nl 4) none, I e.whole.lo, I e.whole.hi]], 3, false⟩)], 1, 0⟩ = some (lr_r_costs_3 e items (r_costs_3 e rest3 v3_0)) := by
  intro rest3
  induction rest3 with
  | nil =>
    intro i3 v3_0 hd3 hi3 hall hL3
    unfold r_costs_3
    obtain rfl : i3 = items.l.length := nil_eq hd3 hi3
    exact zH [.rw 9 (I ((items.l.length : Nat) : Int)), .dec false] (And.intro (lt_no hd3) (And.intro (zn I items) trivial)) (by kernel_rfl)
  | cons x3 rest3 ih =>
    intro i3 v3_0 hd3 hi3 hall hL3
    have hlt3 := zv hd3
    have hbx := hall x3 (mem_drop hd3)
    unfold r_costs_3
    exact po_turn [.rw 9 (I ((items.l.length : Nat) : Int)), .dec true, .el (I x3), .el (.agg [I ((GS.at e.items x3).now.lo), I ((GS.at e.items x3).now.hi), I ((GS.at e.items x3).cost), I ((GS.at e.items x3).error)]), .rw 12 (I ((i3 + 1 : Nat) : Int))] (And.intro (inc_rw (i := i3) (by have := zv hd3; omega)) (And.intro (el_in (s := e.items) (f := S_Item.D) (k := 4) (i := x3) (by first | assumption | omega | (with_reducible exact z9) | (with_reducible exact Nat.le_trans zb (by omega)) | (simp only [z8] at * <;> omega) | (simp only [z5, z6, z7, GS.some_l, List.length_set, List.length_append, List.length_cons, List.length_nil] at * <;> first | with_reducible assumption | omega) | (simp only [z5, z6, z7, GS.some_l, List.length_set, List.length_append, List.length_cons, List.length_nil, z8] at * <;> first | with_reducible assumption | omega) | (simp at * <;> omega)) (by first | assumption | omega | (with_reducible exact z9) | (with_reducible exact Nat.le_trans zb (by omega)) | (simp only [z8] at * <;> omega) | (simp only [z5, z6, z7, GS.some_l, List.length_set, List.length_append, List.length_cons, List.length_nil] at * <;> first | with_reducible assumption | omega) | (simp only [z5, z6, z7, GS.some_l, List.length_set, List.length_append, List.length_cons, List.length_nil, z8] at * <;> first | with_reducible assumption | omega) | (simp at * <;> omega))) (And.intro (el_at (s := items) (f := I) (k := 1) hd3) (And.intro (lt_at hd3) (And.intro (zn I items) trivial))))) (ih (i3 + 1) (w64 (v3_0 + ((GS.at e.items x3).cost))) (zA hd3) (zv hd3) (by first | assumption | omega | (with_reducible exact z9) | (with_reducible exact Nat.le_trans zb (by omega)) | (simp only [z8] at * <;> omega) | (simp only [z5, z6, z7, GS.some_l, List.length_set, List.length_append, List.length_cons, List.length_nil] at * <;> first | with_reducible assumption | omega) | (simp only [z5, z6, z7, GS.some_l, List.length_set, List.length_append, List.length_cons, List.length_nil, z8] at * <;> first | with_reducible assumption | omega) | (simp at * <;> omega)) (by first | assumption | omega | (with_reducible exact z9) | (with_reducible exact Nat.le_trans zb (by omega)) | (simp only [z8] at * <;> omega) | (simp only [z5, z6, z7, GS.some_l, List.length_set, List.length_append, List.length_cons, List.length_nil] at * <;> first | with_reducible assumption | omega) | (simp only [z5, z6, z7, GS.some_l, List.length_set, List.length_append, List.length_cons, List.length_nil, z8] at * <;> first | with_reducible assumption | omega) | (simp at * <;> omega))) (by kernel_rfl)

def r_costs (e : S_Estate) (items : GS Int) : Int :=
  match r_costs_3 e items.l 0 with
  | .x0 v3_0 =>
    v3_0

theorem T_r_costs (e : S_Estate) (items : GS Int) (hall : ∀ i ∈ items.l, 0 ≤ i ∧ i < ((e.items.l.length : Nat) : Int)) (hL_items : items.l.length ≤ 9223372036854775807) : (lim cfg).pure 79 [S_Estate.D e, GS.D I 1 items] = some (I (r_costs e items)) := by
  unfold r_costs
  cases h1 : r_costs_3 e items.l 0 with
  | x0 v3_0 =>
    try dsimp only
    exact zh [.loop (.exit 0) (sd64 e items v3_0)] (And.intro (po_lr (q := lr_r_costs_3 e items) (lp_r_costs_3 e items items.l 0 0 (List.drop_zero) (Nat.zero_le _) (by first | assumption | omega | (with_reducible exact z9) | (with_reducible exact Nat.le_trans zb (by omega)) | (simp only [z8] at * <;> omega) | (simp only [z5, z6, z7, GS.some_l, List.length_set, List.length_append, List.length_cons, List.length_nil] at * <;> first | with_reducible assumption | omega) | (simp only [z5, z6, z7, GS.some_l, List.length_set, List.length_append, List.length_cons, List.length_nil, z8] at * <;> first | with_reducible assumption | omega) | (simp at * <;> omega)) (by first | assumption | omega | (with_reducible exact z9) | (with_reducible exact Nat.le_trans zb (by omega)) | (simp only [z8] at * <;> omega) | (simp only [z5, z6, z7, GS.some_l, List.length_set, List.length_append, List.length_cons, List.length_nil] at * <;> first | with_reducible assumption | omega) | (simp only [z5, z6, z7, GS.some_l, List.length_set, List.length_append, List.length_cons, List.length_nil, z8] at * <;> first | with_reducible assumption | omega) | (simp at * <;> omega))) h1) trivial) (by kernel_rfl)

def r_Worst (e : S_Estate) (items : GS Int) : Int × Int :=
  bif ((r_first e items) != 0) then
    (0, (r_first e items))
  else
    ((r_W e (w64 ((r_Total e) - (r_gains e items)))), 0)

theorem T_r_Worst (e : S_Estate) (items : GS Int) (hL : items.l.length ≤ 9223372036854775807) : (lim cfg).pure 24 [S_Estate.D e, GS.D I 1 items] = some (.tup [I ((r_Worst e items).1), I ((r_Worst e items).2)]) := by
  unfold r_Worst
  cases h1 : ((r_first e items) != 0) with
  | true =>
    have g1 := y0 h1
    exact zh [.pure (I (r_first e items)), .dec true] (And.intro h1 (And.intro (T_r_first e items (by first | assumption | omega | (with_reducible exact z9) | (with_reducible exact Nat.le_trans zb (by omega)) | (simp only [z8] at * <;> omega) | (simp only [z5, z6, z7, GS.some_l, List.length_set, List.length_append, List.length_cons, List.length_nil] at * <;> first | with_reducible assumption | omega) | (simp only [z5, z6, z7, GS.some_l, List.length_set, List.length_append, List.length_cons, List.length_nil, z8] at * <;> first | with_reducible assumption | omega) | (simp at * <;> omega))) trivial)) (by kernel_rfl)
  | false =>
    obtain ⟨g1, gb1⟩ := rfirst_ok (by assumption) (zF h1)
    exact zh [.pure (I (r_first e items)), .dec false, .pure (I (r_Total e)), .pure (I (r_gains e items)), .pure (I (r_W e (w64 ((r_Total e) - (r_gains e items)))))] (And.intro (T_r_W e (w64 ((r_Total e) - (r_gains e items))) (by first | assumption | omega | (with_reducible exact z9) | (with_reducible exact Nat.le_trans zb (by omega)) | (simp only [z8] at * <;> omega) | (simp only [z5, z6, z7, GS.some_l, List.length_set, List.length_append, List.length_cons, List.length_nil] at * <;> first | with_reducible assumption | omega) | (simp only [z5, z6, z7, GS.some_l, List.length_set, List.length_append, List.length_cons, List.length_nil, z8] at * <;> first | with_reducible assumption | omega) | (simp at * <;> omega))) (And.intro (T_r_gains e items (by first | assumption | omega | (with_reducible exact z9) | (with_reducible exact Nat.le_trans zb (by omega)) | (simp only [z8] at * <;> omega) | (simp only [z5, z6, z7, GS.some_l, List.length_set, List.length_append, List.length_cons, List.length_nil] at * <;> first | with_reducible assumption | omega) | (simp only [z5, z6, z7, GS.some_l, List.length_set, List.length_append, List.length_cons, List.length_nil, z8] at * <;> first | with_reducible assumption | omega) | (simp at * <;> omega)) (by first | assumption | omega | (with_reducible exact z9) | (with_reducible exact Nat.le_trans zb (by omega)) | (simp only [z8] at * <;> omega) | (simp only [z5, z6, z7, GS.some_l, List.length_set, List.length_append, List.length_cons, List.length_nil] at * <;> first | with_reducible assumption | omega) | (simp only [z5, z6, z7, GS.some_l, List.length_set, List.length_append, List.length_cons, List.length_nil, z8] at * <;> first | with_reducible assumption | omega) | (simp at * <;> omega))) (And.intro (T_r_Total e (by first | assumption | omega | (with_reducible exact z9) | (with_reducible exact Nat.le_trans zb (by omega)) | (simp only [z8] at * <;> omega) | (simp only [z5, z6, z7, GS.some_l, List.length_set, List.length_append, List.length_cons, List.length_nil] at * <;> first | with_reducible assumption | omega) | (simp only [z5, z6, z7, GS.some_l, List.length_set, List.length_append, List.length_cons, List.length_nil, z8] at * <;> first | with_reducible assumption | omega) | (simp at * <;> omega))) (And.intro h1 (And.intro (T_r_first e items (by first | assumption | omega | (with_reducible exact z9) | (with_reducible exact Nat.le_trans zb (by omega)) | (simp only [z8] at * <;> omega) | (simp only [z5, z6, z7, GS.some_l, List.length_set, List.length_append, List.length_cons, List.length_nil] at * <;> first | with_reducible assumption | omega) | (simp only [z5, z6, z7, GS.some_l, List.length_set, List.length_append, List.length_cons, List.length_nil, z8] at * <;> first | with_reducible assumption | omega) | (simp at * <;> omega))) trivial))))) (by kernel_rfl)

def r_Cost (e : S_Estate) (items : GS Int) : Int × Int :=
  bif ((r_first e items) != 0) then
    (0, (r_first e items))
  else
    ((r_costs e items), 0)

theorem T_r_Cost (e : S_Estate) (items : GS Int) (hL : items.l.length ≤ 9223372036854775807) : (lim cfg).pure 28 [S_Estate.D e, GS.D I 1 items] = some (.tup [I ((r_Cost e items).1), I ((r_Cost e items).2)]) := by
  unfold r_Cost
  cases h1 : ((r_first e items) != 0) with
  | true =>
    have g1 := y0 h1
    exact zh [.pure (I (r_first e items)), .dec true] (And.intro h1 (And.intro (T_r_first e items (by first | assumption | omega | (with_reducible exact z9) | (with_reducible exact Nat.le_trans zb (by omega)) | (simp only [z8] at * <;> omega) | (simp only [z5, z6, z7, GS.some_l, List.length_set, List.length_append, List.length_cons, List.length_nil] at * <;> first | with_reducible assumption | omega) | (simp only [z5, z6, z7, GS.some_l, List.length_set, List.length_append, List.length_cons, List.length_nil, z8] at * <;> first | with_reducible assumption | omega) | (simp at * <;> omega))) trivial)) (by kernel_rfl)
  | false =>
    obtain ⟨g1, gb1⟩ := rfirst_ok (by assumption) (zF h1)
    exact zh [.pure (I (r_first e items)), .dec false, .pure (I (r_costs e items))] (And.intro (T_r_costs e items (by first | assumption | omega | (with_reducible exact z9) | (with_reducible exact Nat.le_trans zb (by omega)) | (simp only [z8] at * <;> omega) | (simp only [z5, z6, z7, GS.some_l, List.length_set, List.length_append, List.length_cons, List.length_nil] at * <;> first | with_reducible assumption | omega) | (simp only [z5, z6, z7, GS.some_l, List.length_set, List.length_append, List.length_cons, List.length_nil, z8] at * <;> first | with_reducible assumption | omega) | (simp at * <;> omega)) (by first | assumption | omega | (with_reducible exact z9) | (with_reducible exact Nat.le_trans zb (by omega)) | (simp only [z8] at * <;> omega) | (simp only [z5, z6, z7, GS.some_l, List.length_set, List.length_append, List.length_cons, List.length_nil] at * <;> first | with_reducible assumption | omega) | (simp only [z5, z6, z7, GS.some_l, List.length_set, List.length_append, List.length_cons, List.length_nil, z8] at * <;> first | with_reducible assumption | omega) | (simp at * <;> omega))) (And.intro h1 (And.intro (T_r_first e items (by first | assumption | omega | (with_reducible exact z9) | (with_reducible exact Nat.le_trans zb (by omega)) | (simp only [z8] at * <;> omega) | (simp only [z5, z6, z7, GS.some_l, List.length_set, List.length_append, List.length_cons, List.length_nil] at * <;> first | with_reducible assumption | omega) | (simp only [z5, z6, z7, GS.some_l, List.length_set, List.length_append, List.length_cons, List.length_nil, z8] at * <;> first | with_reducible assumption | omega) | (simp at * <;> omega))) trivial))) (by kernel_rfl)

noncomputable def lp75_3 : Code := subC [1, 1, 0, 1, 0, 0] (bodyC Tryz.f75)

def sd65 (e : S_Estate) (items : GS Int) (i3 : Nat) (x3 : Int) (va3_0 : Int) (va3_1 : List Int) : St := ⟨44, [(8, I ((i3 + 1 : Nat) : Int)), (16, I ((i3 + 1 : Nat) : Int)), (15, I ((i3 : Nat) : Int)), (7, .lsl 4 0 ((va3_1 ++ [w64 ((w64 (((GS.at e.items x3).now.lo) + ((GS.at e.items x3).error))) + (zV va3_0 (zW (GS.at e.items x3))))]).length) 1 none), (42, .lsl 4 0 ((va3_1 ++ [w64 ((w64 (((GS.at e.items x3).now.lo) + ((GS.at e.items x3).error))) + (zV va3_0 (zW (GS.at e.items x3))))]).length) 1 none), (41, .lsl 3 0 1 1 (some 1)), (40, I (w64 ((w64 (((GS.at e.items x3).now.lo) + ((GS.at e.items x3).error))) + (zV va3_0 (zW (GS.at e.items x3)))))), (39, I (zV va3_0 (zW (GS.at e.items x3)))), (38, I (w64 (((GS.at e.items x3).now.lo) + ((GS.at e.items x3).error)))), (37, I ((GS.at e.items x3).error)), (36, .lref 2 0 4 3), (35, I ((GS.at e.items x3).now.lo)), (34, .lref 2 0 4 0), (33, .lref 2 0 4 0), (32, .lsl 1 0 va3_1.length 1 none), (2, I (w64 (va3_0 - (zV va3_0 (zW (GS.at e.items x3)))))), (31, I (w64 (va3_0 - (zV va3_0 (zW (GS.at e.items x3)))))), (30, I (zV va3_0 (zW (GS.at e.items x3)))), (29, I va3_0), (10, I (zV va3_0 (zW (GS.at e.items x3)))), (28, I (zV va3_0 (zW (GS.at e.items x3)))), (27, I (zW (GS.at e.items x3))), (26, .agg [I ((GS.at e.items x3).now.lo), I ((GS.at e.items x3).now.hi), I ((GS.at e.items x3).cost), I ((GS.at e.items x3).error)]), (25, I va3_0), (9, .lref 2 0 4 0), (24, .agg [I ((GS.at e.items x3).now.lo), I ((GS.at e.items x3).now.hi), I ((GS.at e.items x3).cost), I ((GS.at e.items x3).error)]), (23, .ptr (.agg [I ((GS.at e.items x3).now.lo), I ((GS.at e.items x3).now.hi), I ((GS.at e.items x3).cost), I ((GS.at e.items x3).error)])), (22, I x3), (21, .ptr (I x3)), (20, I ((i3 : Nat) : Int)), (19, .sl items.nl (items.l.map I) (zsl items.nl 1) none), (18, .sl e.items.nl (e.items.l.map S_Item.D) (zsl e.items.nl 4) none), (17, .lref 0 0 3 0), (14, B true), (13, I ((items.l.length : Nat) : Int)), (12, .sl items.nl (items.l.map I) (zsl items.nl 1) none), (11, I ((i3 : Nat) : Int)), (1, .sl items.nl (items.l.map I) (zsl items.nl 1) none), (2, I va3_0), (3, .lref 0 0 3 0), (7, .lsl 1 0 va3_1.length 1 none), (8, I ((i3 : Nat) : Int))], [(0, ⟨[.agg [.sl e.items.nl (e.items.l.map S_Item.D) (zsl e.items.nl 4) none, I e.whole.lo, I e.whole.hi]], 3, false⟩), (2, ⟨[.agg [I ((GS.at e.items x3).now.lo), I ((GS.at e.items x3).now.hi), I ((GS.at e.items x3).cost), I ((GS.at e.items x3).error)]], 4, false⟩), (3, ⟨[I (w64 ((w64 (((GS.at e.items x3).now.lo) + ((GS.at e.items x3).error))) + (zV va3_0 (zW (GS.at e.items x3)))))], 1, false⟩), (4, ⟨(va3_1 ++ [w64 ((w64 (((GS.at e.items x3).now.lo) + ((GS.at e.items x3).error))) + (zV va3_0 (zW (GS.at e.items x3))))]).map I, 1, false⟩)], 5, 0⟩

inductive LR_r_spread_3 where
  | x0 (va3_0 : Int) (va3_1 : List Int)
  | x1
instance : Inhabited LR_r_spread_3 := ⟨.x0 default default⟩
def r_spread_3a (e : S_Estate) (rest : Int) : List Int → Int → (List Int) → LR_r_spread_3
  | [], va3_0, va3_1 => .x0 va3_0 va3_1
  | x3 :: rest3, va3_0, va3_1 =>
    r_spread_3a e rest rest3 (w64 (va3_0 - (zV va3_0 (zW (GS.at e.items x3))))) (va3_1 ++ [w64 ((w64 (((GS.at e.items x3).now.lo) + ((GS.at e.items x3).error))) + (zV va3_0 (zW (GS.at e.items x3))))])
def r_spread_3 (e : S_Estate) (rest : Int) : List Int → LR_r_spread_3
  | [] => .x1
  | x3 :: rest3 =>
    r_spread_3a e rest rest3 (w64 (rest - (zV rest (zW (GS.at e.items x3))))) [w64 ((w64 (((GS.at e.items x3).now.lo) + ((GS.at e.items x3).error))) + (zV rest (zW (GS.at e.items x3))))]
def lr_r_spread_3 (e : S_Estate) (items : GS Int) (rest : Int) : LR_r_spread_3 → Exit × St
  | .x0 va3_0 va3_1 => ((.exit 0), ⟨44, [(14, B false), (13, I ((items.l.length : Nat) : Int)), (12, .sl items.nl (items.l.map I) (zsl items.nl 1) none), (11, I ((items.l.length : Nat) : Int)), (1, .sl items.nl (items.l.map I) (zsl items.nl 1) none), (2, I va3_0), (3, .lref 0 0 3 0), (7, .lsl 1 0 va3_1.length 1 none), (8, I ((items.l.length : Nat) : Int))], [(0, ⟨[.agg [.sl e.items.nl (e.items.l.map S_Item.D) (zsl e.items.nl 4) none, I e.whole.lo, I e.whole.hi]], 3, false⟩), (1, ⟨va3_1.map I, 1, false⟩)], 2, 0⟩)
  | .x1 => ((.exit 0), ⟨44, [(14, B false), (13, I ((items.l.length : Nat) : Int)), (12, .sl items.nl (items.l.map I) (zsl items.nl 1) none), (11, I ((items.l.length : Nat) : Int)), (1, .sl items.nl (items.l.map I) (zsl items.nl 1) none), (2, I rest), (3, .lref 0 0 3 0), (7, .sl true [] 0 none), (8, I ((items.l.length : Nat) : Int))], [(0, ⟨[.agg [.sl e.items.nl (e.items.l.map S_Item.D) (zsl e.items.nl 4) none, I e.whole.lo, I e.whole.hi]], 3, false⟩)], 1, 0⟩)
def iv_r_spread_3 (e : S_Estate) (items : GS Int) (rest : Int) : LR_r_spread_3 → Prop
  | .x0 va3_0 va3_1 => (va3_1.length ≤ items.l.length)
  | .x1 => True
theorem lp_r_spread_3a (e : S_Estate) (items : GS Int) (rest : Int) : ∀ (rest3 : List Int) (i3 : Nat) (va3_0 : Int) (va3_1 : List Int) (hd3 : items.l.drop i3 = rest3) (hi3 : i3 ≤ items.l.length) (hall : ∀ i ∈ items.l, 0 ≤ i ∧ i < ((e.items.l.length : Nat) : Int)) (hg3_va3_1 : va3_1.length ≤ i3) (hL3 : items.l.length ≤ 1099511627776), (lim cfg).loop 75 lp75_3 ⟨44, [(1, .sl items.nl (items.l.map I) (zsl items.nl 1) none), (2, I va3_0), (3, .lref 0 0 3 0), (7, .lsl 1 0 va3_1.length 1 none), (8, I ((i3 : Nat) : Int))], [(0, ⟨[.agg [.sl e.items.nl (e.items.l.map S_Item.D) (zsl e.items.nl 4) none, I e.whole.lo, I e.whole.hi]], 3, false⟩), (1, ⟨va3_1.map I, 1, false⟩)], 2, 0⟩ = some (lr_r_spread_3 e items rest (r_spread_3a e rest rest3 va3_0 va3_1)) := by
  intro rest3
  induction rest3 with
  | nil =>
    intro i3 va3_0 va3_1 hd3 hi3 hall hg3_va3_1 hL3
    unfold r_spread_3a
    obtain rfl : i3 = items.l.length := nil_eq hd3 hi3
    exact zH [.rw 13 (I ((items.l.length : Nat) : Int)), .dec false] (And.intro (lt_no hd3) (And.intro (zn I items) trivial)) (by kernel_rfl)
  | cons x3 rest3 ih =>
    intro i3 va3_0 va3_1 hd3 hi3 hall hg3_va3_1 hL3
    have hlt3 := zv hd3
    have hbx := hall x3 (mem_drop hd3)
    unfold r_spread_3a
    exact po_turn' (ks := [1, 2, 3, 7, 8]) (st' := (sd65 e items i3 x3 va3_0 va3_1)) [.rw 13 (I ((items.l.length : Nat) : Int)), .dec true, .el (I x3), .el (.agg [I ((GS.at e.items x3).now.lo), I ((GS.at e.items x3).now.hi), I ((GS.at e.items x3).cost), I ((GS.at e.items x3).error)]), .pure (I (zW (GS.at e.items x3))), .op (some 42) ⟨.lsl 4 0 ((va3_1 ++ [w64 ((w64 (((GS.at e.items x3).now.lo) + ((GS.at e.items x3).error))) + (zV va3_0 (zW (GS.at e.items x3))))]).length) 1 none, [(1, none), (4, some ⟨(va3_1 ++ [w64 ((w64 (((GS.at e.items x3).now.lo) + ((GS.at e.items x3).error))) + (zV va3_0 (zW (GS.at e.items x3))))]).map I, 1, false⟩)], [1, 3], 5⟩, .rw 16 (I ((i3 + 1 : Nat) : Int))] (And.intro (inc_rw (i := i3) (by have := zv hd3; omega)) (And.intro (app_row (f := I) (te := ty3) (gO := zE [(0, ⟨[.agg [.sl e.items.nl (e.items.l.map S_Item.D) (zsl e.items.nl 4) none, I e.whole.lo, I e.whole.hi]], 3, false⟩), (1, ⟨va3_1.map I, 1, false⟩), (2, ⟨[.agg [I ((GS.at e.items x3).now.lo), I ((GS.at e.items x3).now.hi), I ((GS.at e.items x3).cost), I ((GS.at e.items x3).error)]], 4, false⟩), (3, ⟨[I (w64 ((w64 (((GS.at e.items x3).now.lo) + ((GS.at e.items x3).error))) + (zV va3_0 (zW (GS.at e.items x3)))))], 1, false⟩)]) (nxt := 4) (o := 1) (o2 := 3) (fz := false) zN va3_1 (w64 ((w64 (((GS.at e.items x3).now.lo) + ((GS.at e.items x3).error))) + (zV va3_0 (zW (GS.at e.items x3))))) (by kernel_rfl) (by kernel_rfl) rfl (by kernel_rfl) (by decide) ⟨by simp only [ty3, big] <;> (first | assumption | omega | (with_reducible exact z9) | (with_reducible exact Nat.le_trans zb (by omega)) | (simp only [z8] at * <;> omega) | (simp only [z5, z6, z7, GS.some_l, List.length_set, List.length_append, List.length_cons, List.length_nil] at * <;> first | with_reducible assumption | omega) | (simp only [z5, z6, z7, GS.some_l, List.length_set, List.length_append, List.length_cons, List.length_nil, z8] at * <;> first | with_reducible assumption | omega) | (simp at * <;> omega)), by simp only [big] <;> (first | assumption | omega | (with_reducible exact z9) | (with_reducible exact Nat.le_trans zb (by omega)) | (simp only [z8] at * <;> omega) | (simp only [z5, z6, z7, GS.some_l, List.length_set, List.length_append, List.length_cons, List.length_nil] at * <;> first | with_reducible assumption | omega) | (simp only [z5, z6, z7, GS.some_l, List.length_set, List.length_append, List.length_cons, List.length_nil, z8] at * <;> first | with_reducible assumption | omega) | (simp at * <;> omega))⟩) (And.intro (T_r_Gain (GS.at e.items x3)) (And.intro (el_in (s := e.items) (f := S_Item.D) (k := 4) (i := x3) (by first | assumption | omega | (with_reducible exact z9) | (with_reducible exact Nat.le_trans zb (by omega)) | (simp only [z8] at * <;> omega) | (simp only [z5, z6, z7, GS.some_l, List.length_set, List.length_append, List.length_cons, List.length_nil] at * <;> first | with_reducible assumption | omega) | (simp only [z5, z6, z7, GS.some_l, List.length_set, List.length_append, List.length_cons, List.length_nil, z8] at * <;> first | with_reducible assumption | omega) | (simp at * <;> omega)) (by first | assumption | omega | (with_reducible exact z9) | (with_reducible exact Nat.le_trans zb (by omega)) | (simp only [z8] at * <;> omega) | (simp only [z5, z6, z7, GS.some_l, List.length_set, List.length_append, List.length_cons, List.length_nil] at * <;> first | with_reducible assumption | omega) | (simp only [z5, z6, z7, GS.some_l, List.length_set, List.length_append, List.length_cons, List.length_nil, z8] at * <;> first | with_reducible assumption | omega) | (simp at * <;> omega))) (And.intro (el_at (s := items) (f := I) (k := 1) hd3) (And.intro (lt_at hd3) (And.intro (zn I items) trivial))))))) (by kernel_rfl) (by (simp only [sd65, go_sem, Nat.reduceAdd, Nat.reduceEqDiff, Nat.reduceLT, Nat.reduceLeDiff, bI2, zN.idsL, zN.renL, zN.snapAll, zi.idsL, zi.renL, zi.snapAll]) <;> rfl) (ih (i3 + 1) (w64 (va3_0 - (zV va3_0 (zW (GS.at e.items x3))))) (va3_1 ++ [w64 ((w64 (((GS.at e.items x3).now.lo) + ((GS.at e.items x3).error))) + (zV va3_0 (zW (GS.at e.items x3))))]) (zA hd3) (zv hd3) (by first | assumption | omega | (with_reducible exact z9) | (with_reducible exact Nat.le_trans zb (by omega)) | (simp only [z8] at * <;> omega) | (simp only [z5, z6, z7, GS.some_l, List.length_set, List.length_append, List.length_cons, List.length_nil] at * <;> first | with_reducible assumption | omega) | (simp only [z5, z6, z7, GS.some_l, List.length_set, List.length_append, List.length_cons, List.length_nil, z8] at * <;> first | with_reducible assumption | omega) | (simp at * <;> omega)) (by first | assumption | omega | (with_reducible exact z9) | (with_reducible exact Nat.le_trans zb (by omega)) | (simp only [z8] at * <;> omega) | (simp only [z5, z6, z7, GS.some_l, List.length_set, List.length_append, List.length_cons, List.length_nil] at * <;> first | with_reducible assumption | omega) | (simp only [z5, z6, z7, GS.some_l, List.length_set, List.length_append, List.length_cons, List.length_nil, z8] at * <;> first | with_reducible assumption | omega) | (simp at * <;> omega)) (by first | assumption | omega | (with_reducible exact z9) | (with_reducible exact Nat.le_trans zb (by omega)) | (simp only [z8] at * <;> omega) | (simp only [z5, z6, z7, GS.some_l, List.length_set, List.length_append, List.length_cons, List.length_nil] at * <;> first | with_reducible assumption | omega) | (simp only [z5, z6, z7, GS.some_l, List.length_set, List.length_append, List.length_cons, List.length_nil, z8] at * <;> first | with_reducible assumption | omega) | (simp at * <;> omega))) (by kernel_rfl)
theorem ivt_r_spread_3a (e : S_Estate) (items : GS Int) (rest : Int) : ∀ (rest3 : List Int) (i3 : Nat) (va3_0 : Int) (va3_1 : List Int) (hd3 : items.l.drop i3 = rest3) (hi3 : i3 ≤ items.l.length) (hall : ∀ i ∈ items.l, 0 ≤ i ∧ i < ((e.items.l.length : Nat) : Int)) (hg3_va3_1 : va3_1.length ≤ i3) (hL3 : items.l.length ≤ 1099511627776), iv_r_spread_3 e items rest (r_spread_3a e rest rest3 va3_0 va3_1) := by
  intro rest3
  induction rest3 with
  | nil =>
    intro i3 va3_0 va3_1 hd3 hi3 hall hg3_va3_1 hL3
    unfold r_spread_3a
    obtain rfl : i3 = items.l.length := nil_eq hd3 hi3
    exact hg3_va3_1
  | cons x3 rest3 ih =>
    intro i3 va3_0 va3_1 hd3 hi3 hall hg3_va3_1 hL3
    have hlt3 := zv hd3
    have hbx := hall x3 (mem_drop hd3)
    unfold r_spread_3a
    exact ih (i3 + 1) (w64 (va3_0 - (zV va3_0 (zW (GS.at e.items x3))))) (va3_1 ++ [w64 ((w64 (((GS.at e.items x3).now.lo) + ((GS.at e.items x3).error))) + (zV va3_0 (zW (GS.at e.items x3))))]) (zA hd3) (zv hd3) (by first | assumption | omega | (with_reducible exact z9) | (with_reducible exact Nat.le_trans zb (by omega)) | (simp only [z8] at * <;> omega) | (simp only [z5, z6, z7, GS.some_l, List.length_set, List.length_append, List.length_cons, List.length_nil] at * <;> first | with_reducible assumption | omega) | (simp only [z5, z6, z7, GS.some_l, List.length_set, List.length_append, List.length_cons, List.length_nil, z8] at * <;> first | with_reducible assumption | omega) | (simp at * <;> omega)) (by first | assumption | omega | (with_reducible exact z9) | (with_reducible exact Nat.le_trans zb (by omega)) | (simp only [z8] at * <;> omega) | (simp only [z5, z6, z7, GS.some_l, List.length_set, List.length_append, List.length_cons, List.length_nil] at * <;> first | with_reducible assumption | omega) | (simp only [z5, z6, z7, GS.some_l, List.length_set, List.length_append, List.length_cons, List.length_nil, z8] at * <;> first | with_reducible assumption | omega) | (simp at * <;> omega)) (by first | assumption | omega | (with_reducible exact z9) | (with_reducible exact Nat.le_trans zb (by omega)) | (simp only [z8] at * <;> omega) | (simp only [z5, z6, z7, GS.some_l, List.length_set, List.length_append, List.length_cons, List.length_nil] at * <;> first | with_reducible assumption | omega) | (simp only [z5, z6, z7, GS.some_l, List.length_set, List.length_append, List.length_cons, List.length_nil, z8] at * <;> first | with_reducible assumption | omega) | (simp at * <;> omega))
theorem lp_r_spread_3 (e : S_Estate) (items : GS Int) (rest : Int) : ∀ (rest3 : List Int) (i3 : Nat) (hd3 : items.l.drop i3 = rest3) (hi3 : i3 ≤ items.l.length) (hall : ∀ i ∈ items.l, 0 ≤ i ∧ i < ((e.items.l.length : Nat) : Int)) (hL3 : items.l.length ≤ 1099511627776), (lim cfg).loop 75 lp75_3 ⟨44, [(1, .sl items.nl (items.l.map I) (zsl items.nl 1) none), (2, I rest), (3, .lref 0 0 3 0), (7, .sl true [] 0 none), (8, I ((i3 : Nat) : Int))], [(0, ⟨[.agg [.sl e.items.nl (e.items.l.map S_Item.D) (zsl e.items.nl 4) none, I e.whole.lo, I e.whole.hi]], 3, false⟩)], 1, 0⟩ = some (lr_r_spread_3 e items rest (r_spread_3 e rest rest3)) := by
  intro rest3
  induction rest3 with
  | nil =>
    intro i3 hd3 hi3 hall hL3
    unfold r_spread_3
    obtain rfl : i3 = items.l.length := nil_eq hd3 hi3
    exact zH [.rw 13 (I ((items.l.length : Nat) : Int)), .dec false] (And.intro (lt_no hd3) (And.intro (zn I items) trivial)) (by kernel_rfl)
  | cons x3 rest3 ih =>
    intro i3 hd3 hi3 hall hL3
    have hlt3 := zv hd3
    have hbx := hall x3 (mem_drop hd3)
    unfold r_spread_3
    dsimp only
    exact po_turn [.rw 13 (I ((items.l.length : Nat) : Int)), .dec true, .el (I x3), .el (.agg [I ((GS.at e.items x3).now.lo), I ((GS.at e.items x3).now.hi), I ((GS.at e.items x3).cost), I ((GS.at e.items x3).error)]), .pure (I (zW (GS.at e.items x3))), .rw 16 (I ((i3 + 1 : Nat) : Int))] (And.intro (inc_rw (i := i3) (by have := zv hd3; omega)) (And.intro (T_r_Gain (GS.at e.items x3)) (And.intro (el_in (s := e.items) (f := S_Item.D) (k := 4) (i := x3) (by first | assumption | omega | (with_reducible exact z9) | (with_reducible exact Nat.le_trans zb (by omega)) | (simp only [z8] at * <;> omega) | (simp only [z5, z6, z7, GS.some_l, List.length_set, List.length_append, List.length_cons, List.length_nil] at * <;> first | with_reducible assumption | omega) | (simp only [z5, z6, z7, GS.some_l, List.length_set, List.length_append, List.length_cons, List.length_nil, z8] at * <;> first | with_reducible assumption | omega) | (simp at * <;> omega)) (by first | assumption | omega | (with_reducible exact z9) | (with_reducible exact Nat.le_trans zb (by omega)) | (simp only [z8] at * <;> omega) | (simp only [z5, z6, z7, GS.some_l, List.length_set, List.length_append, List.length_cons, List.length_nil] at * <;> first | with_reducible assumption | omega) | (simp only [z5, z6, z7, GS.some_l, List.length_set, List.length_append, List.length_cons, List.length_nil, z8] at * <;> first | with_reducible assumption | omega) | (simp at * <;> omega))) (And.intro (el_at (s := items) (f := I) (k := 1) hd3) (And.intro (lt_at hd3) (And.intro (zn I items) trivial)))))) (lp_r_spread_3a e items rest _ (i3 + 1) (w64 (rest - (zV rest (zW (GS.at e.items x3))))) [w64 ((w64 (((GS.at e.items x3).now.lo) + ((GS.at e.items x3).error))) + (zV rest (zW (GS.at e.items x3))))] (zA hd3) (zv hd3) (by first | assumption | omega | (with_reducible exact z9) | (with_reducible exact Nat.le_trans zb (by omega)) | (simp only [z8] at * <;> omega) | (simp only [z5, z6, z7, GS.some_l, List.length_set, List.length_append, List.length_cons, List.length_nil] at * <;> first | with_reducible assumption | omega) | (simp only [z5, z6, z7, GS.some_l, List.length_set, List.length_append, List.length_cons, List.length_nil, z8] at * <;> first | with_reducible assumption | omega) | (simp at * <;> omega)) (by first | assumption | omega | (with_reducible exact z9) | (with_reducible exact Nat.le_trans zb (by omega)) | (simp only [z8] at * <;> omega) | (simp only [z5, z6, z7, GS.some_l, List.length_set, List.length_append, List.length_cons, List.length_nil] at * <;> first | with_reducible assumption | omega) | (simp only [z5, z6, z7, GS.some_l, List.length_set, List.length_append, List.length_cons, List.length_nil, z8] at * <;> first | with_reducible assumption | omega) | (simp at * <;> omega)) (by first | assumption | omega | (with_reducible exact z9) | (with_reducible exact Nat.le_trans zb (by omega)) | (simp only [z8] at * <;> omega) | (simp only [z5, z6, z7, GS.some_l, List.length_set, List.length_append, List.length_cons, List.length_nil] at * <;> first | with_reducible assumption | omega) | (simp only [z5, z6, z7, GS.some_l, List.length_set, List.length_append, List.length_cons, List.length_nil, z8] at * <;> first | with_reducible assumption | omega) | (simp at * <;> omega))) (by kernel_rfl)
theorem ivt_r_spread_3 (e : S_Estate) (items : GS Int) (rest : Int) : ∀ (rest3 : List Int) (i3 : Nat) (hd3 : items.l.drop i3 = rest3) (hi3 : i3 ≤ items.l.length) (hall : ∀ i ∈ items.l, 0 ≤ i ∧ i < ((e.items.l.length : Nat) : Int)) (hL3 : items.l.length ≤ 1099511627776), iv_r_spread_3 e items rest (r_spread_3 e rest rest3) := by
  intro rest3
  induction rest3 with
  | nil =>
    intro i3 hd3 hi3 hall hL3
    unfold r_spread_3
    obtain rfl : i3 = items.l.length := nil_eq hd3 hi3
    exact trivial
  | cons x3 rest3 ih =>
    intro i3 hd3 hi3 hall hL3
    have hlt3 := zv hd3
    have hbx := hall x3 (mem_drop hd3)
    unfold r_spread_3
    dsimp only
    exact ivt_r_spread_3a e items rest _ (i3 + 1) (w64 (rest - (zV rest (zW (GS.at e.items x3))))) [w64 ((w64 (((GS.at e.items x3).now.lo) + ((GS.at e.items x3).error))) + (zV rest (zW (GS.at e.items x3))))] (zA hd3) (zv hd3) (by first | assumption | omega | (with_reducible exact z9) | (with_reducible exact Nat.le_trans zb (by omega)) | (simp only [z8] at * <;> omega) | (simp only [z5, z6, z7, GS.some_l, List.length_set, List.length_append, List.length_cons, List.length_nil] at * <;> first | with_reducible assumption | omega) | (simp only [z5, z6, z7, GS.some_l, List.length_set, List.length_append, List.length_cons, List.length_nil, z8] at * <;> first | with_reducible assumption | omega) | (simp at * <;> omega)) (by first | assumption | omega | (with_reducible exact z9) | (with_reducible exact Nat.le_trans zb (by omega)) | (simp only [z8] at * <;> omega) | (simp only [z5, z6, z7, GS.some_l, List.length_set, List.length_append, List.length_cons, List.length_nil] at * <;> first | with_reducible assumption | omega) | (simp only [z5, z6, z7, GS.some_l, List.length_set, List.length_append, List.length_cons, List.length_nil, z8] at * <;> first | with_reducible assumption | omega) | (simp at * <;> omega)) (by first | assumption | omega | (with_reducible exact z9) | (with_reducible exact Nat.le_trans zb (by omega)) | (simp only [z8] at * <;> omega) | (simp only [z5, z6, z7, GS.some_l, List.length_set, List.length_append, List.length_cons, List.length_nil] at * <;> first | with_reducible assumption | omega) | (simp only [z5, z6, z7, GS.some_l, List.length_set, List.length_append, List.length_cons, List.length_nil, z8] at * <;> first | with_reducible assumption | omega) | (simp at * <;> omega))

def r_spread (e : S_Estate) (items : GS Int) (rest : Int) : (GS Int) :=
  match r_spread_3 e rest items.l with
  | .x0 va3_0 va3_1 =>
    GS.some va3_1
  | .x1 =>
    GS.nil

def sd66 (e : S_Estate) (items : GS Int) (va3_0 : Int) (va3_1 : List Int) : St := ⟨44, [(14, B false), (13, I ((items.l.length : Nat) : Int)), (12, .sl items.nl (items.l.map I) (zsl items.nl 1) none), (11, I ((items.l.length : Nat) : Int)), (1, .sl items.nl (items.l.map I) (zsl items.nl 1) none), (2, I va3_0), (3, .lref 0 0 3 0), (7, .lsl 1 0 va3_1.length 1 none), (8, I ((items.l.length : Nat) : Int))], [(0, ⟨[.agg [.sl e.items.nl (e.items.l.map S_Item.D) (zsl e.items.nl 4) none, I e.whole.lo, I e.whole.hi]], 3, false⟩), (1, ⟨va3_1.map I, 1, false⟩)], 2, 0⟩

def sd67 (e : S_Estate) (items : GS Int) (rest : Int) : St := ⟨44, [(14, B false), (13, I ((items.l.length : Nat) : Int)), (12, .sl items.nl (items.l.map I) (zsl items.nl 1) none), (11, I ((items.l.length : Nat) : Int)), (1, .sl items.nl (items.l.map I) (zsl items.nl 1) none), (2, I rest), (3, .lref 0 0 3 0), (7, .sl true [] 0 none), (8, I ((items.l.length : Nat) : Int))], [(0, ⟨[.agg [.sl e.items.nl (e.items.l.map S_Item.D) (zsl e.items.nl 4) none, I e.whole.lo, I e.whole.hi]], 3, false⟩)], 1, 0⟩

theorem T_r_spread (e : S_Estate) (items : GS Int) (rest : Int) (hall : ∀ i ∈ items.l, 0 ≤ i ∧ i < ((e.items.l.length : Nat) : Int)) (hL_items : items.l.length ≤ 1099511627776) : (lim cfg).pure 75 [S_Estate.D e, GS.D I 1 items, I rest] = some (GS.D I 1 (r_spread e items rest)) := by
  unfold r_spread
  cases h1 : r_spread_3 e rest items.l with
  | x0 va3_0 va3_1 =>
    try dsimp only
    have hv_h1 := ivt_r_spread_3 e items rest items.l 0 (List.drop_zero) (Nat.zero_le _) (by first | assumption | omega | (with_reducible exact z9) | (with_reducible exact Nat.le_trans zb (by omega)) | (simp only [z8] at * <;> omega) | (simp only [z5, z6, z7, GS.some_l, List.length_set, List.length_append, List.length_cons, List.length_nil] at * <;> first | with_reducible assumption | omega) | (simp only [z5, z6, z7, GS.some_l, List.length_set, List.length_append, List.length_cons, List.length_nil, z8] at * <;> first | with_reducible assumption | omega) | (simp at * <;> omega)) (by first | assumption | omega | (with_reducible exact z9) | (with_reducible exact Nat.le_trans zb (by omega)) | (simp only [z8] at * <;> omega) | (simp only [z5, z6, z7, GS.some_l, List.length_set, List.length_append, List.length_cons, List.length_nil] at * <;> first | with_reducible assumption | omega) | (simp only [z5, z6, z7, GS.some_l, List.length_set, List.length_append, List.length_cons, List.length_nil, z8] at * <;> first | with_reducible assumption | omega) | (simp at * <;> omega))
    rw [h1] at hv_h1
    have hv_h1_0 := hv_h1
    try dsimp only [iv_r_spread_3] at hv_h1_0
    exact po_pureS [.loop (.exit 0) (sd66 e items va3_0 va3_1)] [(1, .sl false (va3_1.map I) 1 none, [1])] (And.intro (snap_row (gO := zE [(0, ⟨[.agg [.sl e.items.nl (e.items.l.map S_Item.D) (zsl e.items.nl 4) none, I e.whole.lo, I e.whole.hi]], 3, false⟩), (1, ⟨va3_1.map I, 1, false⟩)]) (o := 1) (len := va3_1.length) (cap := none) (fz := false) zN va3_1 (by kernel_rfl) (by first | assumption | omega | (with_reducible exact z9) | (with_reducible exact Nat.le_trans zb (by omega)) | (simp only [z8] at * <;> omega) | (simp only [z5, z6, z7, GS.some_l, List.length_set, List.length_append, List.length_cons, List.length_nil] at * <;> first | with_reducible assumption | omega) | (simp only [z5, z6, z7, GS.some_l, List.length_set, List.length_append, List.length_cons, List.length_nil, z8] at * <;> first | with_reducible assumption | omega) | (simp at * <;> omega))) (And.intro (po_lr (q := lr_r_spread_3 e items rest) (lp_r_spread_3 e items rest items.l 0 (List.drop_zero) (Nat.zero_le _) (by first | assumption | omega | (with_reducible exact z9) | (with_reducible exact Nat.le_trans zb (by omega)) | (simp only [z8] at * <;> omega) | (simp only [z5, z6, z7, GS.some_l, List.length_set, List.length_append, List.length_cons, List.length_nil] at * <;> first | with_reducible assumption | omega) | (simp only [z5, z6, z7, GS.some_l, List.length_set, List.length_append, List.length_cons, List.length_nil, z8] at * <;> first | with_reducible assumption | omega) | (simp at * <;> omega)) (by first | assumption | omega | (with_reducible exact z9) | (with_reducible exact Nat.le_trans zb (by omega)) | (simp only [z8] at * <;> omega) | (simp only [z5, z6, z7, GS.some_l, List.length_set, List.length_append, List.length_cons, List.length_nil] at * <;> first | with_reducible assumption | omega) | (simp only [z5, z6, z7, GS.some_l, List.length_set, List.length_append, List.length_cons, List.length_nil, z8] at * <;> first | with_reducible assumption | omega) | (simp at * <;> omega))) h1) trivial)) (by kernel_rfl)
  | x1 =>
    try dsimp only
    exact zh [.loop (.exit 0) (sd67 e items rest)] (And.intro (po_lr (q := lr_r_spread_3 e items rest) (lp_r_spread_3 e items rest items.l 0 (List.drop_zero) (Nat.zero_le _) (by first | assumption | omega | (with_reducible exact z9) | (with_reducible exact Nat.le_trans zb (by omega)) | (simp only [z8] at * <;> omega) | (simp only [z5, z6, z7, GS.some_l, List.length_set, List.length_append, List.length_cons, List.length_nil] at * <;> first | with_reducible assumption | omega) | (simp only [z5, z6, z7, GS.some_l, List.length_set, List.length_append, List.length_cons, List.length_nil, z8] at * <;> first | with_reducible assumption | omega) | (simp at * <;> omega)) (by first | assumption | omega | (with_reducible exact z9) | (with_reducible exact Nat.le_trans zb (by omega)) | (simp only [z8] at * <;> omega) | (simp only [z5, z6, z7, GS.some_l, List.length_set, List.length_append, List.length_cons, List.length_nil] at * <;> first | with_reducible assumption | omega) | (simp only [z5, z6, z7, GS.some_l, List.length_set, List.length_append, List.length_cons, List.length_nil, z8] at * <;> first | with_reducible assumption | omega) | (simp at * <;> omega))) h1) trivial) (by kernel_rfl)

def r_Attain (e : S_Estate) (items : GS Int) : (GS Int) × Int :=
  bif ((r_first e items) != 0) then
    (GS.nil, (r_first e items))
  else
    ((r_spread e items (w64 ((r_widest e (w64 ((r_Total e) - (r_gains e items)))) - ((r_All e).lo)))), 0)

theorem T_r_Attain (e : S_Estate) (items : GS Int) (hL : items.l.length ≤ 9223372036854775807) : (lim cfg).pure 26 [S_Estate.D e, GS.D I 1 items] = some (.tup [GS.D I 1 ((r_Attain e items).1), I ((r_Attain e items).2)]) := by
  unfold r_Attain
  cases h1 : ((r_first e items) != 0) with
  | true =>
    have g1 := y0 h1
    exact zh [.pure (I (r_first e items)), .dec true] (And.intro h1 (And.intro (T_r_first e items (by first | assumption | omega | (with_reducible exact z9) | (with_reducible exact Nat.le_trans zb (by omega)) | (simp only [z8] at * <;> omega) | (simp only [z5, z6, z7, GS.some_l, List.length_set, List.length_append, List.length_cons, List.length_nil] at * <;> first | with_reducible assumption | omega) | (simp only [z5, z6, z7, GS.some_l, List.length_set, List.length_append, List.length_cons, List.length_nil, z8] at * <;> first | with_reducible assumption | omega) | (simp at * <;> omega))) trivial)) (by kernel_rfl)
  | false =>
    obtain ⟨g1, gb1⟩ := rfirst_ok (by assumption) (zF h1)
    exact zh [.pure (I (r_first e items)), .dec false, .pure (.agg [I ((r_All e).lo), I ((r_All e).hi)]), .pure (I (r_Total e)), .pure (I (r_gains e items)), .pure (I (r_widest e (w64 ((r_Total e) - (r_gains e items))))), .pure (.sl ((r_spread e items (w64 ((r_widest e (w64 ((r_Total e) - (r_gains e items)))) - ((r_All e).lo)))).nl) (((r_spread e items (w64 ((r_widest e (w64 ((r_Total e) - (r_gains e items)))) - ((r_All e).lo)))).l).map I) (zsl ((r_spread e items (w64 ((r_widest e (w64 ((r_Total e) - (r_gains e items)))) - ((r_All e).lo)))).nl) 1) none)] (And.intro (T_r_spread e items (w64 ((r_widest e (w64 ((r_Total e) - (r_gains e items)))) - ((r_All e).lo))) (by first | assumption | omega | (with_reducible exact z9) | (with_reducible exact Nat.le_trans zb (by omega)) | (simp only [z8] at * <;> omega) | (simp only [z5, z6, z7, GS.some_l, List.length_set, List.length_append, List.length_cons, List.length_nil] at * <;> first | with_reducible assumption | omega) | (simp only [z5, z6, z7, GS.some_l, List.length_set, List.length_append, List.length_cons, List.length_nil, z8] at * <;> first | with_reducible assumption | omega) | (simp at * <;> omega)) (by first | assumption | omega | (with_reducible exact z9) | (with_reducible exact Nat.le_trans zb (by omega)) | (simp only [z8] at * <;> omega) | (simp only [z5, z6, z7, GS.some_l, List.length_set, List.length_append, List.length_cons, List.length_nil] at * <;> first | with_reducible assumption | omega) | (simp only [z5, z6, z7, GS.some_l, List.length_set, List.length_append, List.length_cons, List.length_nil, z8] at * <;> first | with_reducible assumption | omega) | (simp at * <;> omega))) (And.intro (T_r_widest e (w64 ((r_Total e) - (r_gains e items))) (by first | assumption | omega | (with_reducible exact z9) | (with_reducible exact Nat.le_trans zb (by omega)) | (simp only [z8] at * <;> omega) | (simp only [z5, z6, z7, GS.some_l, List.length_set, List.length_append, List.length_cons, List.length_nil] at * <;> first | with_reducible assumption | omega) | (simp only [z5, z6, z7, GS.some_l, List.length_set, List.length_append, List.length_cons, List.length_nil, z8] at * <;> first | with_reducible assumption | omega) | (simp at * <;> omega))) (And.intro (T_r_gains e items (by first | assumption | omega | (with_reducible exact z9) | (with_reducible exact Nat.le_trans zb (by omega)) | (simp only [z8] at * <;> omega) | (simp only [z5, z6, z7, GS.some_l, List.length_set, List.length_append, List.length_cons, List.length_nil] at * <;> first | with_reducible assumption | omega) | (simp only [z5, z6, z7, GS.some_l, List.length_set, List.length_append, List.length_cons, List.length_nil, z8] at * <;> first | with_reducible assumption | omega) | (simp at * <;> omega)) (by first | assumption | omega | (with_reducible exact z9) | (with_reducible exact Nat.le_trans zb (by omega)) | (simp only [z8] at * <;> omega) | (simp only [z5, z6, z7, GS.some_l, List.length_set, List.length_append, List.length_cons, List.length_nil] at * <;> first | with_reducible assumption | omega) | (simp only [z5, z6, z7, GS.some_l, List.length_set, List.length_append, List.length_cons, List.length_nil, z8] at * <;> first | with_reducible assumption | omega) | (simp at * <;> omega))) (And.intro (T_r_Total e (by first | assumption | omega | (with_reducible exact z9) | (with_reducible exact Nat.le_trans zb (by omega)) | (simp only [z8] at * <;> omega) | (simp only [z5, z6, z7, GS.some_l, List.length_set, List.length_append, List.length_cons, List.length_nil] at * <;> first | with_reducible assumption | omega) | (simp only [z5, z6, z7, GS.some_l, List.length_set, List.length_append, List.length_cons, List.length_nil, z8] at * <;> first | with_reducible assumption | omega) | (simp at * <;> omega))) (And.intro (T_r_All e (by first | assumption | omega | (with_reducible exact z9) | (with_reducible exact Nat.le_trans zb (by omega)) | (simp only [z8] at * <;> omega) | (simp only [z5, z6, z7, GS.some_l, List.length_set, List.length_append, List.length_cons, List.length_nil] at * <;> first | with_reducible assumption | omega) | (simp only [z5, z6, z7, GS.some_l, List.length_set, List.length_append, List.length_cons, List.length_nil, z8] at * <;> first | with_reducible assumption | omega) | (simp at * <;> omega))) (And.intro h1 (And.intro (T_r_first e items (by first | assumption | omega | (with_reducible exact z9) | (with_reducible exact Nat.le_trans zb (by omega)) | (simp only [z8] at * <;> omega) | (simp only [z5, z6, z7, GS.some_l, List.length_set, List.length_append, List.length_cons, List.length_nil] at * <;> first | with_reducible assumption | omega) | (simp only [z5, z6, z7, GS.some_l, List.length_set, List.length_append, List.length_cons, List.length_nil, z8] at * <;> first | with_reducible assumption | omega) | (simp at * <;> omega))) trivial))))))) (by kernel_rfl)

noncomputable def lp30_5 : Code := subC [1, 1, 1, 0, 1, 0, 0] (bodyC Tryz.f30)

def sd68 (e : S_Estate) (i5 : Nat) (x5 : S_Item) (va5_0 : List Int) : St := ⟨26, [(5, I ((i5 + 1 : Nat) : Int)), (15, I ((i5 + 1 : Nat) : Int)), (14, I ((i5 : Nat) : Int)), (4, .lsl 3 0 ((va5_0 ++ [(zW x5)]).length) 1 none), (24, .lsl 3 0 ((va5_0 ++ [(zW x5)]).length) 1 none), (23, .lsl 2 0 1 1 (some 1)), (22, I (zW x5)), (21, .agg [I x5.now.lo, I x5.now.hi, I x5.cost, I x5.error]), (20, .ptr (.agg [I x5.now.lo, I x5.now.hi, I x5.cost, I x5.error])), (19, I ((i5 : Nat) : Int)), (18, .sl e.items.nl (e.items.l.map S_Item.D) (zsl e.items.nl 4) none), (17, .lref 0 0 3 0), (16, .lsl 1 0 va5_0.length 1 none), (13, B true), (12, I ((e.items.l.length : Nat) : Int)), (11, .sl e.items.nl (e.items.l.map S_Item.D) (zsl e.items.nl 4) none), (10, .lref 0 0 3 0), (9, I ((i5 : Nat) : Int)), (1, .lref 0 0 3 0), (4, .lsl 1 0 va5_0.length 1 none), (5, I ((i5 : Nat) : Int))], [(0, ⟨[.agg [.sl e.items.nl (e.items.l.map S_Item.D) (zsl e.items.nl 4) none, I e.whole.lo, I e.whole.hi]], 3, false⟩), (2, ⟨[I (zW x5)], 1, false⟩), (3, ⟨(va5_0 ++ [(zW x5)]).map I, 1, false⟩)], 4, 0⟩

inductive LR_r_Gains_5 where
  | x0 (va5_0 : List Int)
  | x1
instance : Inhabited LR_r_Gains_5 := ⟨.x0 default⟩
def r_Gains_5a : List S_Item → (List Int) → LR_r_Gains_5
  | [], va5_0 => .x0 va5_0
  | x5 :: rest5, va5_0 =>
    r_Gains_5a rest5 (va5_0 ++ [(zW x5)])
def r_Gains_5 : List S_Item → LR_r_Gains_5
  | [] => .x1
  | x5 :: rest5 =>
    r_Gains_5a rest5 [(zW x5)]
def lr_r_Gains_5 (e : S_Estate) : LR_r_Gains_5 → Exit × St
  | .x0 va5_0 => ((.exit 0), ⟨26, [(13, B false), (12, I ((e.items.l.length : Nat) : Int)), (11, .sl e.items.nl (e.items.l.map S_Item.D) (zsl e.items.nl 4) none), (10, .lref 0 0 3 0), (9, I ((e.items.l.length : Nat) : Int)), (1, .lref 0 0 3 0), (4, .lsl 1 0 va5_0.length 1 none), (5, I ((e.items.l.length : Nat) : Int))], [(0, ⟨[.agg [.sl e.items.nl (e.items.l.map S_Item.D) (zsl e.items.nl 4) none, I e.whole.lo, I e.whole.hi]], 3, false⟩), (1, ⟨va5_0.map I, 1, false⟩)], 2, 0⟩)
  | .x1 => ((.exit 0), ⟨26, [(13, B false), (12, I ((e.items.l.length : Nat) : Int)), (11, .sl e.items.nl (e.items.l.map S_Item.D) (zsl e.items.nl 4) none), (10, .lref 0 0 3 0), (9, I ((e.items.l.length : Nat) : Int)), (1, .lref 0 0 3 0), (4, .sl true [] 0 none), (5, I ((e.items.l.length : Nat) : Int))], [(0, ⟨[.agg [.sl e.items.nl (e.items.l.map S_Item.D) (zsl e.items.nl 4) none, I e.whole.lo, I e.whole.hi]], 3, false⟩)], 1, 0⟩)
def iv_r_Gains_5 (e : S_Estate) : LR_r_Gains_5 → Prop
  | .x0 va5_0 => (va5_0.length ≤ e.items.l.length)
  | .x1 => True
theorem lp_r_Gains_5a (e : S_Estate) : ∀ (rest5 : List S_Item) (i5 : Nat) (va5_0 : List Int) (hd5 : e.items.l.drop i5 = rest5) (hi5 : i5 ≤ e.items.l.length) (hg5_va5_0 : va5_0.length ≤ i5) (hL5 : e.items.l.length ≤ 1099511627776), (lim cfg).loop 30 lp30_5 ⟨26, [(1, .lref 0 0 3 0), (4, .lsl 1 0 va5_0.length 1 none), (5, I ((i5 : Nat) : Int))], [(0, ⟨[.agg [.sl e.items.nl (e.items.l.map S_Item.D) (zsl e.items.nl 4) none, I e.whole.lo, I e.whole.hi]], 3, false⟩), (1, ⟨va5_0.map I, 1, false⟩)], 2, 0⟩ = some (lr_r_Gains_5 e (r_Gains_5a rest5 va5_0)) := by
  intro rest5
  induction rest5 with
  | nil =>
    intro i5 va5_0 hd5 hi5 hg5_va5_0 hL5
    unfold r_Gains_5a
    obtain rfl : i5 = e.items.l.length := nil_eq hd5 hi5
    exact zH [.rw 12 (I ((e.items.l.length : Nat) : Int)), .dec false] (And.intro (lt_no hd5) (And.intro (zn S_Item.D e.items) trivial)) (by kernel_rfl)
  | cons x5 rest5 ih =>
    intro i5 va5_0 hd5 hi5 hg5_va5_0 hL5
    have hlt5 := zv hd5
    unfold r_Gains_5a
    exact po_turn' (ks := [1, 4, 5]) (st' := (sd68 e i5 x5 va5_0)) [.rw 12 (I ((e.items.l.length : Nat) : Int)), .dec true, .el (.agg [I x5.now.lo, I x5.now.hi, I x5.cost, I x5.error]), .pure (I (zW x5)), .op (some 24) ⟨.lsl 3 0 ((va5_0 ++ [(zW x5)]).length) 1 none, [(1, none), (3, some ⟨(va5_0 ++ [(zW x5)]).map I, 1, false⟩)], [1, 2], 4⟩, .rw 15 (I ((i5 + 1 : Nat) : Int))] (And.intro (inc_rw (i := i5) (by have := zv hd5; omega)) (And.intro (app_row (f := I) (te := ty3) (gO := zE [(0, ⟨[.agg [.sl e.items.nl (e.items.l.map S_Item.D) (zsl e.items.nl 4) none, I e.whole.lo, I e.whole.hi]], 3, false⟩), (1, ⟨va5_0.map I, 1, false⟩), (2, ⟨[I (zW x5)], 1, false⟩)]) (nxt := 3) (o := 1) (o2 := 2) (fz := false) zN va5_0 (zW x5) (by kernel_rfl) (by kernel_rfl) rfl (by kernel_rfl) (by decide) ⟨by simp only [ty3, big] <;> (first | assumption | omega | (with_reducible exact z9) | (with_reducible exact Nat.le_trans zb (by omega)) | (simp only [z8] at * <;> omega) | (simp only [z5, z6, z7, GS.some_l, List.length_set, List.length_append, List.length_cons, List.length_nil] at * <;> first | with_reducible assumption | omega) | (simp only [z5, z6, z7, GS.some_l, List.length_set, List.length_append, List.length_cons, List.length_nil, z8] at * <;> first | with_reducible assumption | omega) | (simp at * <;> omega)), by simp only [big] <;> (first | assumption | omega | (with_reducible exact z9) | (with_reducible exact Nat.le_trans zb (by omega)) | (simp only [z8] at * <;> omega) | (simp only [z5, z6, z7, GS.some_l, List.length_set, List.length_append, List.length_cons, List.length_nil] at * <;> first | with_reducible assumption | omega) | (simp only [z5, z6, z7, GS.some_l, List.length_set, List.length_append, List.length_cons, List.length_nil, z8] at * <;> first | with_reducible assumption | omega) | (simp at * <;> omega))⟩) (And.intro (T_r_Gain x5) (And.intro (el_at (s := e.items) (f := S_Item.D) (k := 4) hd5) (And.intro (lt_at hd5) (And.intro (zn S_Item.D e.items) trivial)))))) (by kernel_rfl) (by (simp only [sd68, go_sem, Nat.reduceAdd, Nat.reduceEqDiff, Nat.reduceLT, Nat.reduceLeDiff, bI2, zN.idsL, zN.renL, zN.snapAll, zi.idsL, zi.renL, zi.snapAll]) <;> rfl) (ih (i5 + 1) (va5_0 ++ [(zW x5)]) (zA hd5) (zv hd5) (by first | assumption | omega | (with_reducible exact z9) | (with_reducible exact Nat.le_trans zb (by omega)) | (simp only [z8] at * <;> omega) | (simp only [z5, z6, z7, GS.some_l, List.length_set, List.length_append, List.length_cons, List.length_nil] at * <;> first | with_reducible assumption | omega) | (simp only [z5, z6, z7, GS.some_l, List.length_set, List.length_append, List.length_cons, List.length_nil, z8] at * <;> first | with_reducible assumption | omega) | (simp at * <;> omega)) (by first | assumption | omega | (with_reducible exact z9) | (with_reducible exact Nat.le_trans zb (by omega)) | (simp only [z8] at * <;> omega) | (simp only [z5, z6, z7, GS.some_l, List.length_set, List.length_append, List.length_cons, List.length_nil] at * <;> first | with_reducible assumption | omega) | (simp only [z5, z6, z7, GS.some_l, List.length_set, List.length_append, List.length_cons, List.length_nil, z8] at * <;> first | with_reducible assumption | omega) | (simp at * <;> omega))) (by kernel_rfl)
theorem ivt_r_Gains_5a (e : S_Estate) : ∀ (rest5 : List S_Item) (i5 : Nat) (va5_0 : List Int) (hd5 : e.items.l.drop i5 = rest5) (hi5 : i5 ≤ e.items.l.length) (hg5_va5_0 : va5_0.length ≤ i5) (hL5 : e.items.l.length ≤ 1099511627776), iv_r_Gains_5 e (r_Gains_5a rest5 va5_0) := by
  intro rest5
  induction rest5 with
  | nil =>
    intro i5 va5_0 hd5 hi5 hg5_va5_0 hL5
    unfold r_Gains_5a
    obtain rfl : i5 = e.items.l.length := nil_eq hd5 hi5
    exact hg5_va5_0
  | cons x5 rest5 ih =>
    intro i5 va5_0 hd5 hi5 hg5_va5_0 hL5
    have hlt5 := zv hd5
    unfold r_Gains_5a
    exact ih (i5 + 1) (va5_0 ++ [(zW x5)]) (zA hd5) (zv hd5) (by first | assumption | omega | (with_reducible exact z9) | (with_reducible exact Nat.le_trans zb (by omega)) | (simp only [z8] at * <;> omega) | (simp only [z5, z6, z7, GS.some_l, List.length_set, List.length_append, List.length_cons, List.length_nil] at * <;> first | with_reducible assumption | omega) | (simp only [z5, z6, z7, GS.some_l, List.length_set, List.length_append, List.length_cons, List.length_nil, z8] at * <;> first | with_reducible assumption | omega) | (simp at * <;> omega)) (by first | assumption | omega | (with_reducible exact z9) | (with_reducible exact Nat.le_trans zb (by omega)) | (simp only [z8] at * <;> omega) | (simp only [z5, z6, z7, GS.some_l, List.length_set, List.length_append, List.length_cons, List.length_nil] at * <;> first | with_reducible assumption | omega) | (simp only [z5, z6, z7, GS.some_l, List.length_set, List.length_append, List.length_cons, List.length_nil, z8] at * <;> first | with_reducible assumption | omega) | (simp at * <;> omega))
theorem lp_r_Gains_5 (e : S_Estate) : ∀ (rest5 : List S_Item) (i5 : Nat) (hd5 : e.items.l.drop i5 = rest5) (hi5 : i5 ≤ e.items.l.length) (hL5 : e.items.l.length ≤ 1099511627776), (lim cfg).loop 30 lp30_5 ⟨26, [(1, .lref 0 0 3 0), (4, .sl true [] 0 none), (5, I ((i5 : Nat) : Int))], [(0, ⟨[.agg [.sl e.items.nl (e.items.l.map S_Item.D) (zsl e.items.nl 4) none, I e.whole.lo, I e.whole.hi]], 3, false⟩)], 1, 0⟩ = some (lr_r_Gains_5 e (r_Gains_5 rest5)) := by
  intro rest5
  induction rest5 with
  | nil =>
    intro i5 hd5 hi5 hL5
    unfold r_Gains_5
    obtain rfl : i5 = e.items.l.length := nil_eq hd5 hi5
    exact zH [.rw 12 (I ((e.items.l.length : Nat) : Int)), .dec false] (And.intro (lt_no hd5) (And.intro (zn S_Item.D e.items) trivial)) (by kernel_rfl)
  | cons x5 rest5 ih =>
    intro i5 hd5 hi5 hL5
    have hlt5 := zv hd5
    unfold r_Gains_5
    dsimp only
    exact po_turn [.rw 12 (I ((e.items.l.length : Nat) : Int)), .dec true, .el (.agg [I x5.now.lo, I x5.now.hi, I x5.cost, I x5.error]), .pure (I (zW x5)), .rw 15 (I ((i5 + 1 : Nat) : Int))] (And.intro (inc_rw (i := i5) (by have := zv hd5; omega)) (And.intro (T_r_Gain x5) (And.intro (el_at (s := e.items) (f := S_Item.D) (k := 4) hd5) (And.intro (lt_at hd5) (And.intro (zn S_Item.D e.items) trivial))))) (lp_r_Gains_5a e _ (i5 + 1) [(zW x5)] (zA hd5) (zv hd5) (by first | assumption | omega | (with_reducible exact z9) | (with_reducible exact Nat.le_trans zb (by omega)) | (simp only [z8] at * <;> omega) | (simp only [z5, z6, z7, GS.some_l, List.length_set, List.length_append, List.length_cons, List.length_nil] at * <;> first | with_reducible assumption | omega) | (simp only [z5, z6, z7, GS.some_l, List.length_set, List.length_append, List.length_cons, List.length_nil, z8] at * <;> first | with_reducible assumption | omega) | (simp at * <;> omega)) (by first | assumption | omega | (with_reducible exact z9) | (with_reducible exact Nat.le_trans zb (by omega)) | (simp only [z8] at * <;> omega) | (simp only [z5, z6, z7, GS.some_l, List.length_set, List.length_append, List.length_cons, List.length_nil] at * <;> first | with_reducible assumption | omega) | (simp only [z5, z6, z7, GS.some_l, List.length_set, List.length_append, List.length_cons, List.length_nil, z8] at * <;> first | with_reducible assumption | omega) | (simp at * <;> omega))) (by kernel_rfl)
theorem ivt_r_Gains_5 (e : S_Estate) : ∀ (rest5 : List S_Item) (i5 : Nat) (hd5 : e.items.l.drop i5 = rest5) (hi5 : i5 ≤ e.items.l.length) (hL5 : e.items.l.length ≤ 1099511627776), iv_r_Gains_5 e (r_Gains_5 rest5) := by
  intro rest5
  induction rest5 with
  | nil =>
    intro i5 hd5 hi5 hL5
    unfold r_Gains_5
    obtain rfl : i5 = e.items.l.length := nil_eq hd5 hi5
    exact trivial
  | cons x5 rest5 ih =>
    intro i5 hd5 hi5 hL5
    have hlt5 := zv hd5
    unfold r_Gains_5
    dsimp only
    exact ivt_r_Gains_5a e _ (i5 + 1) [(zW x5)] (zA hd5) (zv hd5) (by first | assumption | omega | (with_reducible exact z9) | (with_reducible exact Nat.le_trans zb (by omega)) | (simp only [z8] at * <;> omega) | (simp only [z5, z6, z7, GS.some_l, List.length_set, List.length_append, List.length_cons, List.length_nil] at * <;> first | with_reducible assumption | omega) | (simp only [z5, z6, z7, GS.some_l, List.length_set, List.length_append, List.length_cons, List.length_nil, z8] at * <;> first | with_reducible assumption | omega) | (simp at * <;> omega)) (by first | assumption | omega | (with_reducible exact z9) | (with_reducible exact Nat.le_trans zb (by omega)) | (simp only [z8] at * <;> omega) | (simp only [z5, z6, z7, GS.some_l, List.length_set, List.length_append, List.length_cons, List.length_nil] at * <;> first | with_reducible assumption | omega) | (simp only [z5, z6, z7, GS.some_l, List.length_set, List.length_append, List.length_cons, List.length_nil, z8] at * <;> first | with_reducible assumption | omega) | (simp at * <;> omega))

def r_Gains (e : S_Estate) : (GS Int) × Int :=
  bif (zR e) then
    match r_Gains_5 e.items.l with
    | .x0 va5_0 =>
      (GS.some va5_0, 0)
    | .x1 =>
      (GS.nil, 0)
  else
    (GS.nil, 80)

def sd69 (e : S_Estate) (va5_0 : List Int) : St := ⟨26, [(13, B false), (12, I ((e.items.l.length : Nat) : Int)), (11, .sl e.items.nl (e.items.l.map S_Item.D) (zsl e.items.nl 4) none), (10, .lref 0 0 3 0), (9, I ((e.items.l.length : Nat) : Int)), (1, .lref 0 0 3 0), (4, .lsl 1 0 va5_0.length 1 none), (5, I ((e.items.l.length : Nat) : Int))], [(0, ⟨[.agg [.sl e.items.nl (e.items.l.map S_Item.D) (zsl e.items.nl 4) none, I e.whole.lo, I e.whole.hi]], 3, false⟩), (1, ⟨va5_0.map I, 1, false⟩)], 2, 0⟩

def sd70 (e : S_Estate) : St := ⟨26, [(13, B false), (12, I ((e.items.l.length : Nat) : Int)), (11, .sl e.items.nl (e.items.l.map S_Item.D) (zsl e.items.nl 4) none), (10, .lref 0 0 3 0), (9, I ((e.items.l.length : Nat) : Int)), (1, .lref 0 0 3 0), (4, .sl true [] 0 none), (5, I ((e.items.l.length : Nat) : Int))], [(0, ⟨[.agg [.sl e.items.nl (e.items.l.map S_Item.D) (zsl e.items.nl 4) none, I e.whole.lo, I e.whole.hi]], 3, false⟩)], 1, 0⟩

theorem T_r_Gains (e : S_Estate) (hL_e_items : e.items.l.length ≤ 1099511627776) : (lim cfg).pure 30 [S_Estate.D e] = some (.tup [GS.D I 1 ((r_Gains e).1), I ((r_Gains e).2)]) := by
  unfold r_Gains
  cases h1 : (zR e) with
  | true =>
    have g1 := valid_len h1
    cases h2 : r_Gains_5 e.items.l with
    | x0 va5_0 =>
      try dsimp only
      have hv_h2 := ivt_r_Gains_5 e e.items.l 0 (List.drop_zero) (Nat.zero_le _) (by first | assumption | omega | (with_reducible exact z9) | (with_reducible exact Nat.le_trans zb (by omega)) | (simp only [z8] at * <;> omega) | (simp only [z5, z6, z7, GS.some_l, List.length_set, List.length_append, List.length_cons, List.length_nil] at * <;> first | with_reducible assumption | omega) | (simp only [z5, z6, z7, GS.some_l, List.length_set, List.length_append, List.length_cons, List.length_nil, z8] at * <;> first | with_reducible assumption | omega) | (simp at * <;> omega))
      rw [h2] at hv_h2
      have hv_h2_0 := hv_h2
      try dsimp only [iv_r_Gains_5] at hv_h2_0
      exact po_pureS [.pure (B (zR e)), .dec true, .loop (.exit 0) (sd69 e va5_0)] [(1, .sl false (va5_0.map I) 1 none, [1])] (And.intro (snap_row (gO := zE [(0, ⟨[.agg [.sl e.items.nl (e.items.l.map S_Item.D) (zsl e.items.nl 4) none, I e.whole.lo, I e.whole.hi]], 3, false⟩), (1, ⟨va5_0.map I, 1, false⟩)]) (o := 1) (len := va5_0.length) (cap := none) (fz := false) zN va5_0 (by kernel_rfl) (by first | assumption | omega | (with_reducible exact z9) | (with_reducible exact Nat.le_trans zb (by omega)) | (simp only [z8] at * <;> omega) | (simp only [z5, z6, z7, GS.some_l, List.length_set, List.length_append, List.length_cons, List.length_nil] at * <;> first | with_reducible assumption | omega) | (simp only [z5, z6, z7, GS.some_l, List.length_set, List.length_append, List.length_cons, List.length_nil, z8] at * <;> first | with_reducible assumption | omega) | (simp at * <;> omega))) (And.intro (po_lr (q := lr_r_Gains_5 e) (lp_r_Gains_5 e e.items.l 0 (List.drop_zero) (Nat.zero_le _) (by first | assumption | omega | (with_reducible exact z9) | (with_reducible exact Nat.le_trans zb (by omega)) | (simp only [z8] at * <;> omega) | (simp only [z5, z6, z7, GS.some_l, List.length_set, List.length_append, List.length_cons, List.length_nil] at * <;> first | with_reducible assumption | omega) | (simp only [z5, z6, z7, GS.some_l, List.length_set, List.length_append, List.length_cons, List.length_nil, z8] at * <;> first | with_reducible assumption | omega) | (simp at * <;> omega))) h2) (And.intro h1 (And.intro (T_r_Valid e) trivial)))) (by kernel_rfl)
    | x1 =>
      try dsimp only
      exact zh [.pure (B (zR e)), .dec true, .loop (.exit 0) (sd70 e)] (And.intro (po_lr (q := lr_r_Gains_5 e) (lp_r_Gains_5 e e.items.l 0 (List.drop_zero) (Nat.zero_le _) (by first | assumption | omega | (with_reducible exact z9) | (with_reducible exact Nat.le_trans zb (by omega)) | (simp only [z8] at * <;> omega) | (simp only [z5, z6, z7, GS.some_l, List.length_set, List.length_append, List.length_cons, List.length_nil] at * <;> first | with_reducible assumption | omega) | (simp only [z5, z6, z7, GS.some_l, List.length_set, List.length_append, List.length_cons, List.length_nil, z8] at * <;> first | with_reducible assumption | omega) | (simp at * <;> omega))) h2) (And.intro h1 (And.intro (T_r_Valid e) trivial))) (by kernel_rfl)
  | false =>
    exact zh [.pure (B (zR e)), .dec false] (And.intro h1 (And.intro (T_r_Valid e) trivial)) (by kernel_rfl)

noncomputable def lp15_4 : Code := subC [1, 1, 0, 1, 0, 0] (bodyC Tryz.f15)

inductive LR_slices_Equal_4 where
  | x0
  | x1 (i4 : Nat) (x4 : Int)
instance : Inhabited LR_slices_Equal_4 := ⟨.x0⟩
def slices_Equal_4 (b : GS Int) : List Int → Nat → LR_slices_Equal_4
  | [], i4 => .x0
  | x4 :: rest4, i4 =>
    bif (x4 != (GS.at b ((i4 : Nat) : Int))) then
      .x1 i4 x4
    else
      slices_Equal_4 b rest4 (i4 + 1)
def lr_slices_Equal_4 (a : GS Int) (b : GS Int) : LR_slices_Equal_4 → Exit × St
  | .x0 => ((.exit 0), ⟨26, [(14, B false), (0, .sl a.nl (a.l.map I) (zsl a.nl 1) none), (1, .sl b.nl (b.l.map I) (zsl b.nl 1) none), (12, I ((a.l.length : Nat) : Int)), (13, I ((a.l.length : Nat) : Int))], [], 0, 0⟩)
  | .x1 i4 x4 => (.ret, ⟨26, [(4, B false), (24, B true), (23, I (GS.at b ((i4 : Nat) : Int))), (22, .ptr (I (GS.at b ((i4 : Nat) : Int)))), (21, I ((i4 : Nat) : Int)), (20, .sl b.nl (b.l.map I) (zsl b.nl 1) none), (19, I x4), (18, .ptr (I x4)), (17, I ((i4 : Nat) : Int)), (16, .sl a.nl (a.l.map I) (zsl a.nl 1) none), (5, I ((i4 : Nat) : Int)), (15, I ((i4 : Nat) : Int)), (14, B true), (0, .sl a.nl (a.l.map I) (zsl a.nl 1) none), (1, .sl b.nl (b.l.map I) (zsl b.nl 1) none), (12, I ((a.l.length : Nat) : Int)), (13, I ((i4 : Nat) : Int))], [], 0, 0⟩)
theorem lp_slices_Equal_4 (a : GS Int) (b : GS Int) : ∀ (rest4 : List Int) (i4 : Nat) (hd4 : a.l.drop i4 = rest4) (hi4 : i4 ≤ a.l.length) (hS : a.l.length = b.l.length) (hL4 : a.l.length ≤ 9223372036854775807), (lim cfg).loop 15 lp15_4 ⟨26, [(0, .sl a.nl (a.l.map I) (zsl a.nl 1) none), (1, .sl b.nl (b.l.map I) (zsl b.nl 1) none), (12, I ((a.l.length : Nat) : Int)), (13, I ((i4 : Nat) : Int))], [], 0, 0⟩ = some (lr_slices_Equal_4 a b (slices_Equal_4 b rest4 i4)) := by
  intro rest4
  induction rest4 with
  | nil =>
    intro i4 hd4 hi4 hS hL4
    unfold slices_Equal_4
    obtain rfl : i4 = a.l.length := nil_eq hd4 hi4
    exact zH [.dec false] (And.intro (lt_no hd4) trivial) (by kernel_rfl)
  | cons x4 rest4 ih =>
    intro i4 hd4 hi4 hS hL4
    have hlt4 := zv hd4
    unfold slices_Equal_4
    cases h3 : (x4 != (GS.at b ((i4 : Nat) : Int))) with
    | true =>
      have g3 := y0 h3
      exact zH [.dec true, .el (I x4), .el (I (GS.at b ((i4 : Nat) : Int))), .dec true] (And.intro h3 (And.intro (el_in (s := b) (f := I) (k := 1) (i := ((i4 : Nat) : Int)) (by first | assumption | omega | (with_reducible exact z9) | (with_reducible exact Nat.le_trans zb (by omega)) | (simp only [z8] at * <;> omega) | (simp only [z5, z6, z7, GS.some_l, List.length_set, List.length_append, List.length_cons, List.length_nil] at * <;> first | with_reducible assumption | omega) | (simp only [z5, z6, z7, GS.some_l, List.length_set, List.length_append, List.length_cons, List.length_nil, z8] at * <;> first | with_reducible assumption | omega) | (simp at * <;> omega)) (by first | assumption | omega | (with_reducible exact z9) | (with_reducible exact Nat.le_trans zb (by omega)) | (simp only [z8] at * <;> omega) | (simp only [z5, z6, z7, GS.some_l, List.length_set, List.length_append, List.length_cons, List.length_nil] at * <;> first | with_reducible assumption | omega) | (simp only [z5, z6, z7, GS.some_l, List.length_set, List.length_append, List.length_cons, List.length_nil, z8] at * <;> first | with_reducible assumption | omega) | (simp at * <;> omega))) (And.intro (el_at (s := a) (f := I) (k := 1) hd4) (And.intro (lt_at hd4) trivial)))) (by kernel_rfl)
    | false =>
      have g3 := zF h3
      exact po_turn [.dec true, .el (I x4), .el (I (GS.at b ((i4 : Nat) : Int))), .dec false, .rw 25 (I ((i4 + 1 : Nat) : Int))] (And.intro (inc_rw (i := i4) (by have := zv hd4; omega)) (And.intro h3 (And.intro (el_in (s := b) (f := I) (k := 1) (i := ((i4 : Nat) : Int)) (by first | assumption | omega | (with_reducible exact z9) | (with_reducible exact Nat.le_trans zb (by omega)) | (simp only [z8] at * <;> omega) | (simp only [z5, z6, z7, GS.some_l, List.length_set, List.length_append, List.length_cons, List.length_nil] at * <;> first | with_reducible assumption | omega) | (simp only [z5, z6, z7, GS.some_l, List.length_set, List.length_append, List.length_cons, List.length_nil, z8] at * <;> first | with_reducible assumption | omega) | (simp at * <;> omega)) (by first | assumption | omega | (with_reducible exact z9) | (with_reducible exact Nat.le_trans zb (by omega)) | (simp only [z8] at * <;> omega) | (simp only [z5, z6, z7, GS.some_l, List.length_set, List.length_append, List.length_cons, List.length_nil] at * <;> first | with_reducible assumption | omega) | (simp only [z5, z6, z7, GS.some_l, List.length_set, List.length_append, List.length_cons, List.length_nil, z8] at * <;> first | with_reducible assumption | omega) | (simp at * <;> omega))) (And.intro (el_at (s := a) (f := I) (k := 1) hd4) (And.intro (lt_at hd4) trivial))))) (ih (i4 + 1) (zA hd4) (zv hd4) (by first | assumption | omega | (with_reducible exact z9) | (with_reducible exact Nat.le_trans zb (by omega)) | (simp only [z8] at * <;> omega) | (simp only [z5, z6, z7, GS.some_l, List.length_set, List.length_append, List.length_cons, List.length_nil] at * <;> first | with_reducible assumption | omega) | (simp only [z5, z6, z7, GS.some_l, List.length_set, List.length_append, List.length_cons, List.length_nil, z8] at * <;> first | with_reducible assumption | omega) | (simp at * <;> omega)) (by first | assumption | omega | (with_reducible exact z9) | (with_reducible exact Nat.le_trans zb (by omega)) | (simp only [z8] at * <;> omega) | (simp only [z5, z6, z7, GS.some_l, List.length_set, List.length_append, List.length_cons, List.length_nil] at * <;> first | with_reducible assumption | omega) | (simp only [z5, z6, z7, GS.some_l, List.length_set, List.length_append, List.length_cons, List.length_nil, z8] at * <;> first | with_reducible assumption | omega) | (simp at * <;> omega))) (by kernel_rfl)

def slices_Equal (a : GS Int) (b : GS Int) : Bool :=
  bif (((a.l.length : Nat) : Int) != ((b.l.length : Nat) : Int)) then
    false
  else
    match slices_Equal_4 b a.l 0 with
    | .x0 =>
      true
    | .x1 i4 x4 =>
      false

def slices_Equal_o1 (a : GS Int) (b : GS Int) : List Ora := [.rw 7 (I ((a.l.length : Nat) : Int)), .rw 9 (I ((b.l.length : Nat) : Int)), .dec false, .rw 12 (I ((a.l.length : Nat) : Int))]

def sd71 (a : GS Int) (b : GS Int) : St := ⟨26, [(14, B false), (0, .sl a.nl (a.l.map I) (zsl a.nl 1) none), (1, .sl b.nl (b.l.map I) (zsl b.nl 1) none), (12, I ((a.l.length : Nat) : Int)), (13, I ((a.l.length : Nat) : Int))], [], 0, 0⟩

def sd72 (a : GS Int) (b : GS Int) (i4 : Nat) (x4 : Int) : St := ⟨26, [(4, B false), (24, B true), (23, I (GS.at b ((i4 : Nat) : Int))), (22, .ptr (I (GS.at b ((i4 : Nat) : Int)))), (21, I ((i4 : Nat) : Int)), (20, .sl b.nl (b.l.map I) (zsl b.nl 1) none), (19, I x4), (18, .ptr (I x4)), (17, I ((i4 : Nat) : Int)), (16, .sl a.nl (a.l.map I) (zsl a.nl 1) none), (5, I ((i4 : Nat) : Int)), (15, I ((i4 : Nat) : Int)), (14, B true), (0, .sl a.nl (a.l.map I) (zsl a.nl 1) none), (1, .sl b.nl (b.l.map I) (zsl b.nl 1) none), (12, I ((a.l.length : Nat) : Int)), (13, I ((i4 : Nat) : Int))], [], 0, 0⟩

theorem T_slices_Equal (a : GS Int) (b : GS Int) (hL_a : a.l.length ≤ 9223372036854775807) : (lim cfg).pure 15 [GS.D I 1 a, GS.D I 1 b] = some (B (slices_Equal a b)) := by
  unfold slices_Equal
  cases h1 : (((a.l.length : Nat) : Int) != ((b.l.length : Nat) : Int)) with
  | true =>
    have g1 := y0 h1
    exact zh [.rw 7 (I ((a.l.length : Nat) : Int)), .rw 9 (I ((b.l.length : Nat) : Int)), .dec true] (And.intro h1 (And.intro (zn I b) (And.intro (zn I a) trivial))) (by kernel_rfl)
  | false =>
    have g1 := zF h1
    cases h4 : slices_Equal_4 b a.l 0 with
    | x0 =>
      try dsimp only
      exact zh ((slices_Equal_o1 a b) ++ [.loop (.exit 0) (sd71 a b)]) (And.intro (po_lr (q := lr_slices_Equal_4 a b) (lp_slices_Equal_4 a b a.l 0 (List.drop_zero) (Nat.zero_le _) (by first | assumption | omega | (with_reducible exact z9) | (with_reducible exact Nat.le_trans zb (by omega)) | (simp only [z8] at * <;> omega) | (simp only [z5, z6, z7, GS.some_l, List.length_set, List.length_append, List.length_cons, List.length_nil] at * <;> first | with_reducible assumption | omega) | (simp only [z5, z6, z7, GS.some_l, List.length_set, List.length_append, List.length_cons, List.length_nil, z8] at * <;> first | with_reducible assumption | omega) | (simp at * <;> omega)) (by first | assumption | omega | (with_reducible exact z9) | (with_reducible exact Nat.le_trans zb (by omega)) | (simp only [z8] at * <;> omega) | (simp only [z5, z6, z7, GS.some_l, List.length_set, List.length_append, List.length_cons, List.length_nil] at * <;> first | with_reducible assumption | omega) | (simp only [z5, z6, z7, GS.some_l, List.length_set, List.length_append, List.length_cons, List.length_nil, z8] at * <;> first | with_reducible assumption | omega) | (simp at * <;> omega))) h4) (And.intro (zn I a) (And.intro h1 (And.intro (zn I b) (And.intro (zn I a) trivial))))) (by kernel_rfl)
    | x1 i4 x4 =>
      try dsimp only
      exact zh ((slices_Equal_o1 a b) ++ [.loop .ret (sd72 a b i4 x4)]) (And.intro (po_lr (q := lr_slices_Equal_4 a b) (lp_slices_Equal_4 a b a.l 0 (List.drop_zero) (Nat.zero_le _) (by first | assumption | omega | (with_reducible exact z9) | (with_reducible exact Nat.le_trans zb (by omega)) | (simp only [z8] at * <;> omega) | (simp only [z5, z6, z7, GS.some_l, List.length_set, List.length_append, List.length_cons, List.length_nil] at * <;> first | with_reducible assumption | omega) | (simp only [z5, z6, z7, GS.some_l, List.length_set, List.length_append, List.length_cons, List.length_nil, z8] at * <;> first | with_reducible assumption | omega) | (simp at * <;> omega)) (by first | assumption | omega | (with_reducible exact z9) | (with_reducible exact Nat.le_trans zb (by omega)) | (simp only [z8] at * <;> omega) | (simp only [z5, z6, z7, GS.some_l, List.length_set, List.length_append, List.length_cons, List.length_nil] at * <;> first | with_reducible assumption | omega) | (simp only [z5, z6, z7, GS.some_l, List.length_set, List.length_append, List.length_cons, List.length_nil, z8] at * <;> first | with_reducible assumption | omega) | (simp at * <;> omega))) h4) (And.intro (zn I a) (And.intro h1 (And.intro (zn I b) (And.intro (zn I a) trivial))))) (by kernel_rfl)
end Go.VS
namespace Go.VS
open Go Go.Proofs
set_option maxHeartbeats 0
set_option linter.unusedSimpArgs false
set_option linter.unusedVariables false
noncomputable def lp8_2 : Code := subC [1, 0, 1, 0, 0] (bodyC Tryz.f8)

inductive LR_l_few_2 where
  | x0
  | x1 (i2 : Nat) (x2 : GS Int)
instance : Inhabited LR_l_few_2 := ⟨.x0⟩
def l_few_2 : List (GS Int) → Nat → LR_l_few_2
  | [], i2 => .x0
  | x2 :: rest2, i2 =>
    bif decide (((x2.l.length : Nat) : Int) > 40) then
      .x1 i2 x2
    else
      l_few_2 rest2 (i2 + 1)
def lr_l_few_2 (e : S_Estate) (l : GS (GS Int)) : LR_l_few_2 → Exit × St
  | .x0 => ((.exit 0), ⟨21, [(10, B false), (2, .lref 0 0 3 0), (7, .sl l.nl (l.l.map (GS.D I 1)) (zsl l.nl 1) none), (8, I ((l.l.length : Nat) : Int)), (9, I ((l.l.length : Nat) : Int))], [(0, ⟨[.agg [.sl e.items.nl (e.items.l.map S_Item.D) (zsl e.items.nl 4) none, I e.whole.lo, I e.whole.hi]], 3, false⟩)], 1, 0⟩)
  | .x1 i2 x2 => (.ret, ⟨21, [(4, B false), (15, B true), (14, I ((x2.l.length : Nat) : Int)), (13, .sl x2.nl (x2.l.map I) (zsl x2.nl 1) none), (6, .sl x2.nl (x2.l.map I) (zsl x2.nl 1) none), (12, .sl x2.nl (x2.l.map I) (zsl x2.nl 1) none), (11, .ptr (.sl x2.nl (x2.l.map I) (zsl x2.nl 1) none)), (10, B true), (2, .lref 0 0 3 0), (7, .sl l.nl (l.l.map (GS.D I 1)) (zsl l.nl 1) none), (8, I ((l.l.length : Nat) : Int)), (9, I ((i2 : Nat) : Int))], [(0, ⟨[.agg [.sl e.items.nl (e.items.l.map S_Item.D) (zsl e.items.nl 4) none, I e.whole.lo, I e.whole.hi]], 3, false⟩)], 1, 0⟩)
theorem lp_l_few_2 (e : S_Estate) (l : GS (GS Int)) : ∀ (rest2 : List (GS Int)) (i2 : Nat) (hd2 : l.l.drop i2 = rest2) (hi2 : i2 ≤ l.l.length) (hL2 : l.l.length ≤ 9223372036854775807), (lim cfg).loop 8 lp8_2 ⟨21, [(2, .lref 0 0 3 0), (7, .sl l.nl (l.l.map (GS.D I 1)) (zsl l.nl 1) none), (8, I ((l.l.length : Nat) : Int)), (9, I ((i2 : Nat) : Int))], [(0, ⟨[.agg [.sl e.items.nl (e.items.l.map S_Item.D) (zsl e.items.nl 4) none, I e.whole.lo, I e.whole.hi]], 3, false⟩)], 1, 0⟩ = some (lr_l_few_2 e l (l_few_2 rest2 i2)) := by
  intro rest2
  induction rest2 with
  | nil =>
    intro i2 hd2 hi2 hL2
    unfold l_few_2
    obtain rfl : i2 = l.l.length := nil_eq hd2 hi2
    exact zH [.dec false] (And.intro (lt_no hd2) trivial) (by kernel_rfl)
  | cons x2 rest2 ih =>
    intro i2 hd2 hi2 hL2
    have hlt2 := zv hd2
    unfold l_few_2
    cases h2 : decide (((x2.l.length : Nat) : Int) > 40) with
    | true =>
      have g2 := of_decide_eq_true h2
      exact zH [.dec true, .el (.sl x2.nl (x2.l.map I) (zsl x2.nl 1) none), .rw 14 (I ((x2.l.length : Nat) : Int)), .dec true] (And.intro h2 (And.intro (zn I x2) (And.intro (el_at (s := l) (f := (GS.D I 1)) (k := 1) hd2) (And.intro (lt_at hd2) trivial)))) (by kernel_rfl)
    | false =>
      have g2 := of_decide_eq_false h2
      exact po_turn [.dec true, .el (.sl x2.nl (x2.l.map I) (zsl x2.nl 1) none), .rw 14 (I ((x2.l.length : Nat) : Int)), .dec false, .rw 16 (I ((i2 + 1 : Nat) : Int))] (And.intro (inc_rw (i := i2) (by have := zv hd2; omega)) (And.intro h2 (And.intro (zn I x2) (And.intro (el_at (s := l) (f := (GS.D I 1)) (k := 1) hd2) (And.intro (lt_at hd2) trivial))))) (ih (i2 + 1) (zA hd2) (zv hd2) (by first | assumption | omega | (with_reducible exact z9) | (with_reducible exact Nat.le_trans zb (by omega)) | (with_reducible exact Nat.le_trans zc (by omega)) | (with_reducible exact Nat.le_trans zd (by omega)) | (simp only [z8] at * <;> omega) | (simp only [z5, z6, z7, GS.some_l, List.length_set, List.length_append, List.length_cons, List.length_nil] at * <;> first | with_reducible assumption | omega) | (simp only [z5, z6, z7, GS.some_l, List.length_set, List.length_append, List.length_cons, List.length_nil, z8] at * <;> first | with_reducible assumption | omega) | (simp at * <;> omega))) (by kernel_rfl)

def l_few (e : S_Estate) (l : GS (GS Int)) : Bool :=
  match l_few_2 l.l 0 with
  | .x0 =>
    bif decide (((e.items.l.length : Nat) : Int) ≤ 40) then
      true
    else
      false
  | .x1 i2 x2 =>
    false

def sd73 (e : S_Estate) (l : GS (GS Int)) : St := ⟨21, [(10, B false), (2, .lref 0 0 3 0), (7, .sl l.nl (l.l.map (GS.D I 1)) (zsl l.nl 1) none), (8, I ((l.l.length : Nat) : Int)), (9, I ((l.l.length : Nat) : Int))], [(0, ⟨[.agg [.sl e.items.nl (e.items.l.map S_Item.D) (zsl e.items.nl 4) none, I e.whole.lo, I e.whole.hi]], 3, false⟩)], 1, 0⟩

def sd74 (e : S_Estate) (l : GS (GS Int)) (i2 : Nat) (x2 : GS Int) : St := ⟨21, [(4, B false), (15, B true), (14, I ((x2.l.length : Nat) : Int)), (13, .sl x2.nl (x2.l.map I) (zsl x2.nl 1) none), (6, .sl x2.nl (x2.l.map I) (zsl x2.nl 1) none), (12, .sl x2.nl (x2.l.map I) (zsl x2.nl 1) none), (11, .ptr (.sl x2.nl (x2.l.map I) (zsl x2.nl 1) none)), (10, B true), (2, .lref 0 0 3 0), (7, .sl l.nl (l.l.map (GS.D I 1)) (zsl l.nl 1) none), (8, I ((l.l.length : Nat) : Int)), (9, I ((i2 : Nat) : Int))], [(0, ⟨[.agg [.sl e.items.nl (e.items.l.map S_Item.D) (zsl e.items.nl 4) none, I e.whole.lo, I e.whole.hi]], 3, false⟩)], 1, 0⟩

theorem T_l_few (e : S_Estate) (l : GS (GS Int)) (hL_l : l.l.length ≤ 9223372036854775807) : (lim cfg).pure 8 [S_Estate.D e, GS.D (GS.D I 1) 1 l] = some (B (l_few e l)) := by
  unfold l_few
  cases h3 : l_few_2 l.l 0 with
  | x0 =>
    try dsimp only
    have p1 := (po_lr (q := lr_l_few_2 e l) (lp_l_few_2 e l l.l 0 (List.drop_zero) (Nat.zero_le _) (by first | assumption | omega | (with_reducible exact z9) | (with_reducible exact Nat.le_trans zb (by omega)) | (with_reducible exact Nat.le_trans zc (by omega)) | (with_reducible exact Nat.le_trans zd (by omega)) | (simp only [z8] at * <;> omega) | (simp only [z5, z6, z7, GS.some_l, List.length_set, List.length_append, List.length_cons, List.length_nil] at * <;> first | with_reducible assumption | omega) | (simp only [z5, z6, z7, GS.some_l, List.length_set, List.length_append, List.length_cons, List.length_nil, z8] at * <;> first | with_reducible assumption | omega) | (simp at * <;> omega))) h3)
    cases h4 : decide (((e.items.l.length : Nat) : Int) ≤ 40) with
    | true =>
      have g4 := of_decide_eq_true h4
      exact zh [.rw 8 (I ((l.l.length : Nat) : Int)), .loop (.exit 0) (sd73 e l), .rw 19 (I ((e.items.l.length : Nat) : Int)), .dec true] (And.intro h4 (And.intro (zn S_Item.D e.items) (And.intro p1 (And.intro (zn (GS.D I 1) l) trivial)))) (by kernel_rfl)
    | false =>
      have g4 := of_decide_eq_false h4
      exact zh [.rw 8 (I ((l.l.length : Nat) : Int)), .loop (.exit 0) (sd73 e l), .rw 19 (I ((e.items.l.length : Nat) : Int)), .dec false] (And.intro h4 (And.intro (zn S_Item.D e.items) (And.intro p1 (And.intro (zn (GS.D I 1) l) trivial)))) (by kernel_rfl)
  | x1 i2 x2 =>
    try dsimp only
    exact zh [.rw 8 (I ((l.l.length : Nat) : Int)), .loop .ret (sd74 e l i2 x2)] (And.intro (po_lr (q := lr_l_few_2 e l) (lp_l_few_2 e l l.l 0 (List.drop_zero) (Nat.zero_le _) (by first | assumption | omega | (with_reducible exact z9) | (with_reducible exact Nat.le_trans zb (by omega)) | (with_reducible exact Nat.le_trans zc (by omega)) | (with_reducible exact Nat.le_trans zd (by omega)) | (simp only [z8] at * <;> omega) | (simp only [z5, z6, z7, GS.some_l, List.length_set, List.length_append, List.length_cons, List.length_nil] at * <;> first | with_reducible assumption | omega) | (simp only [z5, z6, z7, GS.some_l, List.length_set, List.length_append, List.length_cons, List.length_nil, z8] at * <;> first | with_reducible assumption | omega) | (simp at * <;> omega))) h3) (And.intro (zn (GS.D I 1) l) trivial)) (by kernel_rfl)

theorem few_len {e : S_Estate} {l : GS (GS Int)} (h : l_few e l = true) : e.items.l.length ≤ 40 ∧ ∀ x ∈ l.l, x.l.length ≤ 40 := by
  have key : ∀ (l : List (GS Int)) (i : Nat), l_few_2 l i = .x0 → ∀ x ∈ l, x.l.length ≤ 40 := by
    intro l
    induction l with
    | nil => intro i _ x hx; cases hx
    | cons y l ih =>
      intro i h x hx
      unfold l_few_2 at h
      cases hc : decide (((y.l.length : Nat) : Int) > 40) with
      | true => rw [hc] at h; cases h
      | false =>
        rw [hc] at h
        have := of_decide_eq_false hc
        rcases List.mem_cons.1 hx with rfl | hx
        · omega
        · exact ih _ h x hx
  unfold l_few at h
  cases hc : l_few_2 l.l 0 with
  | x1 i x => rw [hc] at h; cases h
  | x0 =>
    rw [hc] at h
    refine ⟨?_, key _ _ hc⟩
    cases hd : decide (((e.items.l.length : Nat) : Int) ≤ 40) with
    | true => have := of_decide_eq_true hd; omega
    | false => simp only [hd] at h; cases h
theorem few1 {e : S_Estate} {x : GS Int} (h : l_few e (GS.some [x]) = true) : e.items.l.length ≤ 40 ∧ x.l.length ≤ 40 := ⟨(few_len h).1, (few_len h).2 x (by simp [GS.some])⟩
theorem few3 {e : S_Estate} {x y z : GS Int} (h : l_few e (GS.some [x, y, z]) = true) : e.items.l.length ≤ 40 ∧ x.l.length ≤ 40 ∧ y.l.length ≤ 40 ∧ z.l.length ≤ 40 := ⟨(few_len h).1, (few_len h).2 x (by simp [GS.some]), (few_len h).2 y (by simp [GS.some]), (few_len h).2 z (by simp [GS.some])⟩

theorem zc {e : S_Estate} {items : GS Int} : (orders_Attain e items).1.l.length ≤ items.l.length := by
  unfold orders_Attain
  cases (zp e items != 0) with
  | true => simp [GS.nil]
  | false => simp only [cond_false, shown_len]; exact Nat.le_refl _
theorem zd {e : S_Estate} : (orders_Gains e).1.l.length ≤ e.items.l.length := by
  unfold orders_Gains
  cases (zo e != 0) with
  | true => simp [GS.nil]
  | false => simp only [cond_false, z6, z7]; omega
end Go.VS
