/- Nothing of a statement is proved in this text alone: it is part 3 of the proof's own tools, an evaluator of the code over deep values, its soundness, and what it makes of this seat's functions. Conditions: none beyond the statement's own. -/
import Derived.Test.YtnifoeahomkdlaaVsOFq2
set_option linter.unusedSimpArgs false
set_option linter.unusedVariables false
namespace Go.VS
open Go Go.Proofs
set_option maxHeartbeats 0
set_option linter.unusedSimpArgs false
set_option linter.unusedVariables false
noncomputable def lp58_3 : Code := subC [1, 1, 0, 1, 0, 0] (bodyC Try.f58)

inductive LR_r_All_3 where
  | x0 (v3_0 : Int) (v3_1 : Int)
instance : Inhabited LR_r_All_3 := ⟨.x0 default default⟩
def r_All_3 : List S_Item → Int → Int → LR_r_All_3
  | [], v3_0, v3_1 => .x0 v3_0 v3_1
  | x3 :: rest3, v3_0, v3_1 =>
    r_All_3 rest3 (w64 (v3_0 + x3.now.lo)) (w64 (v3_1 + x3.now.hi))
def lr_r_All_3 (e : S_Estate) : LR_r_All_3 → Exit × St
  | .x0 v3_0 v3_1 => ((.exit 0), ⟨36, [(10, B false), (9, I ((e.items.l.length : Nat) : Int)), (8, .sl e.items.nl (e.items.l.map S_Item.D) (zsl e.items.nl 4) none), (7, .lref 0 0 3 0), (6, I ((e.items.l.length : Nat) : Int)), (1, .lref 0 0 3 0), (2, .lref 1 0 2 0), (3, .lref 2 0 2 0), (4, I ((e.items.l.length : Nat) : Int))], [(0, ⟨[.agg [.sl e.items.nl (e.items.l.map S_Item.D) (zsl e.items.nl 4) none, I e.whole.lo, I e.whole.hi]], 3, false⟩), (1, ⟨[.agg [I 0, I 0]], 2, false⟩), (2, ⟨[.agg [I v3_0, I v3_1]], 2, false⟩)], 3, 0⟩)
theorem lp_r_All_3 (e : S_Estate) : ∀ (rest3 : List S_Item) (i3 : Nat) (v3_0 : Int) (v3_1 : Int) (hd3 : e.items.l.drop i3 = rest3) (hi3 : i3 ≤ e.items.l.length) (hL3 : e.items.l.length ≤ 9223372036854775807), (lim cfg).loop 58 lp58_3 ⟨36, [(1, .lref 0 0 3 0), (2, .lref 1 0 2 0), (3, .lref 2 0 2 0), (4, I ((i3 : Nat) : Int))], [(0, ⟨[.agg [.sl e.items.nl (e.items.l.map S_Item.D) (zsl e.items.nl 4) none, I e.whole.lo, I e.whole.hi]], 3, false⟩), (1, ⟨[.agg [I 0, I 0]], 2, false⟩), (2, ⟨[.agg [I v3_0, I v3_1]], 2, false⟩)], 3, 0⟩ = some (lr_r_All_3 e (r_All_3 rest3 v3_0 v3_1)) := by
  intro rest3
  induction rest3 with
  | nil =>
    intro i3 v3_0 v3_1 hd3 hi3 hL3
    unfold r_All_3
    obtain rfl : i3 = e.items.l.length := nil_eq hd3 hi3
    exact zF [.rw 9 (I ((e.items.l.length : Nat) : Int)), .dec false] (And.intro (lt_no hd3) (And.intro (zt S_Item.D e.items) trivial)) (by kernel_rfl)
  | cons x3 rest3 ih =>
    intro i3 v3_0 v3_1 hd3 hi3 hL3
    have hlt3 := zw hd3
    unfold r_All_3
    exact po_turn [.rw 9 (I ((e.items.l.length : Nat) : Int)), .dec true, .el (.agg [I x3.now.lo, I x3.now.hi, I x3.cost, I x3.error]), .el (.agg [I x3.now.lo, I x3.now.hi, I x3.cost, I x3.error]), .rw 12 (I ((i3 + 1 : Nat) : Int))] (And.intro (inc_rw (i := i3) (by have := zw hd3; omega)) (And.intro (el_at (s := e.items) (f := S_Item.D) (k := 4) hd3) (And.intro (el_at (s := e.items) (f := S_Item.D) (k := 4) hd3) (And.intro (lt_at hd3) (And.intro (zt S_Item.D e.items) trivial))))) (ih (i3 + 1) (w64 (v3_0 + x3.now.lo)) (w64 (v3_1 + x3.now.hi)) (zH hd3) (zw hd3) (by first | assumption | omega | (simp only [zd] at * <;> omega) | (simp only [zb, GS.some_l, List.length_set, List.length_append, List.length_cons, List.length_nil] at * <;> first | with_reducible assumption | omega) | (simp only [zb, GS.some_l, List.length_set, List.length_append, List.length_cons, List.length_nil, zd] at * <;> first | with_reducible assumption | omega) | (simp at * <;> omega))) (by kernel_rfl)

def r_All (e : S_Estate) : S_Span :=
  match r_All_3 e.items.l 0 0 with
  | .x0 v3_0 v3_1 =>
    (⟨v3_0, v3_1⟩ : S_Span)

def sd9 (e : S_Estate) (v3_0 : Int) (v3_1 : Int) : St := ⟨36, [(10, B false), (9, I ((e.items.l.length : Nat) : Int)), (8, .sl e.items.nl (e.items.l.map S_Item.D) (zsl e.items.nl 4) none), (7, .lref 0 0 3 0), (6, I ((e.items.l.length : Nat) : Int)), (1, .lref 0 0 3 0), (2, .lref 1 0 2 0), (3, .lref 2 0 2 0), (4, I ((e.items.l.length : Nat) : Int))], [(0, ⟨[.agg [.sl e.items.nl (e.items.l.map S_Item.D) (zsl e.items.nl 4) none, I e.whole.lo, I e.whole.hi]], 3, false⟩), (1, ⟨[.agg [I 0, I 0]], 2, false⟩), (2, ⟨[.agg [I v3_0, I v3_1]], 2, false⟩)], 3, 0⟩

theorem T_r_All (e : S_Estate) (hL_e_items : e.items.l.length ≤ 9223372036854775807) : (lim cfg).pure 58 [S_Estate.D e] = some (S_Span.D (r_All e)) := by
  unfold r_All
  cases h1 : r_All_3 e.items.l 0 0 with
  | x0 v3_0 v3_1 =>
    try dsimp only
    exact zu [.loop (.exit 0) (sd9 e v3_0 v3_1)] (And.intro (po_lr (q := lr_r_All_3 e) (lp_r_All_3 e e.items.l 0 0 0 (List.drop_zero) (Nat.zero_le _) (by first | assumption | omega | (simp only [zd] at * <;> omega) | (simp only [zb, GS.some_l, List.length_set, List.length_append, List.length_cons, List.length_nil] at * <;> first | with_reducible assumption | omega) | (simp only [zb, GS.some_l, List.length_set, List.length_append, List.length_cons, List.length_nil, zd] at * <;> first | with_reducible assumption | omega) | (simp at * <;> omega))) h1) trivial) (by kernel_rfl)

noncomputable def lp19_4 : Code := subC [1, 1, 0, 1, 0, 0] (bodyC Try.f19)

inductive LR_r_Valid_4 where
  | x0
  | x1 (i4 : Nat) (x4 : S_Item)
  | x2 (i4 : Nat) (x4 : S_Item)
  | x3 (i4 : Nat) (x4 : S_Item)
  | x4 (i4 : Nat) (x4 : S_Item)
  | x5 (i4 : Nat) (x4 : S_Item)
  | x6 (i4 : Nat) (x4 : S_Item)
  | x7 (i4 : Nat) (x4 : S_Item)
instance : Inhabited LR_r_Valid_4 := ⟨.x0⟩
def r_Valid_4 : List S_Item → Nat → LR_r_Valid_4
  | [], i4 => .x0
  | x4 :: rest4, i4 =>
    bif decide (x4.now.lo < 0) then
      .x1 i4 x4
    else
      bif decide (x4.now.lo > x4.now.hi) then
        .x2 i4 x4
      else
        bif decide (x4.now.hi > 1073741824) then
          .x3 i4 x4
        else
          bif decide (x4.cost < 0) then
            .x4 i4 x4
          else
            bif decide (x4.cost > 10000) then
              .x5 i4 x4
            else
              bif decide (x4.error < 0) then
                .x6 i4 x4
              else
                bif decide (x4.error > 1048576) then
                  .x7 i4 x4
                else
                  r_Valid_4 rest4 (i4 + 1)
def lr_r_Valid_4 (e : S_Estate) : LR_r_Valid_4 → Exit × St
  | .x0 => ((.exit 0), ⟨104, [(41, B false), (40, I ((e.items.l.length : Nat) : Int)), (39, .sl e.items.nl (e.items.l.map S_Item.D) (zsl e.items.nl 4) none), (38, .lref 0 0 3 0), (37, I ((e.items.l.length : Nat) : Int)), (1, .lref 0 0 3 0), (3, I ((e.items.l.length : Nat) : Int))], [(0, ⟨[.agg [.sl e.items.nl (e.items.l.map S_Item.D) (zsl e.items.nl 4) none, I e.whole.lo, I e.whole.hi]], 3, false⟩)], 1, 0⟩)
  | .x1 i4 x4 => (.ret, ⟨104, [(2, B false), (87, B true), (86, .tup []), (85, .tup []), (84, .tup []), (83, B true), (82, B true), (81, .tup []), (80, .tup []), (79, .tup []), (78, B true), (77, B true), (76, .tup []), (75, .tup []), (74, .tup []), (73, B true), (72, B true), (71, .tup []), (70, .tup []), (69, .tup []), (68, B true), (67, B true), (66, .tup []), (65, .tup []), (64, .tup []), (63, .tup []), (62, B true), (61, B true), (60, .tup []), (59, .tup []), (58, .tup []), (57, .tup []), (56, .tup []), (55, .tup []), (54, .tup []), (53, B true), (52, B true), (51, I x4.now.lo), (50, .lref 1 0 4 0), (49, .lref 1 0 4 0), (4, .lref 1 0 4 0), (48, .agg [I x4.now.lo, I x4.now.hi, I x4.cost, I x4.error]), (47, .ptr (.agg [I x4.now.lo, I x4.now.hi, I x4.cost, I x4.error])), (46, I ((i4 : Nat) : Int)), (45, .sl e.items.nl (e.items.l.map S_Item.D) (zsl e.items.nl 4) none), (44, .lref 0 0 3 0), (41, B true), (40, I ((e.items.l.length : Nat) : Int)), (39, .sl e.items.nl (e.items.l.map S_Item.D) (zsl e.items.nl 4) none), (38, .lref 0 0 3 0), (37, I ((i4 : Nat) : Int)), (1, .lref 0 0 3 0), (3, I ((i4 : Nat) : Int))], [(0, ⟨[.agg [.sl e.items.nl (e.items.l.map S_Item.D) (zsl e.items.nl 4) none, I e.whole.lo, I e.whole.hi]], 3, false⟩), (1, ⟨[.agg [I x4.now.lo, I x4.now.hi, I x4.cost, I x4.error]], 4, false⟩)], 2, 0⟩)
  | .x2 i4 x4 => (.ret, ⟨104, [(2, B false), (87, B true), (86, .tup []), (85, .tup []), (84, .tup []), (83, B true), (82, B true), (81, .tup []), (80, .tup []), (79, .tup []), (78, B true), (77, B true), (76, .tup []), (75, .tup []), (74, .tup []), (73, B true), (72, B true), (71, .tup []), (70, .tup []), (69, .tup []), (68, B true), (67, B true), (66, .tup []), (65, .tup []), (64, .tup []), (63, .tup []), (62, B true), (61, B true), (60, B true), (59, I x4.now.hi), (58, .lref 1 0 4 1), (57, .lref 1 0 4 0), (56, I x4.now.lo), (55, .lref 1 0 4 0), (54, .lref 1 0 4 0), (53, B false), (52, B false), (51, I x4.now.lo), (50, .lref 1 0 4 0), (49, .lref 1 0 4 0), (4, .lref 1 0 4 0), (48, .agg [I x4.now.lo, I x4.now.hi, I x4.cost, I x4.error]), (47, .ptr (.agg [I x4.now.lo, I x4.now.hi, I x4.cost, I x4.error])), (46, I ((i4 : Nat) : Int)), (45, .sl e.items.nl (e.items.l.map S_Item.D) (zsl e.items.nl 4) none), (44, .lref 0 0 3 0), (41, B true), (40, I ((e.items.l.length : Nat) : Int)), (39, .sl e.items.nl (e.items.l.map S_Item.D) (zsl e.items.nl 4) none), (38, .lref 0 0 3 0), (37, I ((i4 : Nat) : Int)), (1, .lref 0 0 3 0), (3, I ((i4 : Nat) : Int))], [(0, ⟨[.agg [.sl e.items.nl (e.items.l.map S_Item.D) (zsl e.items.nl 4) none, I e.whole.lo, I e.whole.hi]], 3, false⟩), (1, ⟨[.agg [I x4.now.lo, I x4.now.hi, I x4.cost, I x4.error]], 4, false⟩)], 2, 0⟩)
  | .x3 i4 x4 => (.ret, ⟨104, [(2, B false), (87, B true), (86, .tup []), (85, .tup []), (84, .tup []), (83, B true), (82, B true), (81, .tup []), (80, .tup []), (79, .tup []), (78, B true), (77, B true), (76, .tup []), (75, .tup []), (74, .tup []), (73, B true), (72, B true), (71, .tup []), (70, .tup []), (69, .tup []), (68, B true), (67, B true), (66, B true), (65, I x4.now.hi), (64, .lref 1 0 4 1), (63, .lref 1 0 4 0), (62, B false), (61, B false), (60, B false), (59, I x4.now.hi), (58, .lref 1 0 4 1), (57, .lref 1 0 4 0), (56, I x4.now.lo), (55, .lref 1 0 4 0), (54, .lref 1 0 4 0), (53, B false), (52, B false), (51, I x4.now.lo), (50, .lref 1 0 4 0), (49, .lref 1 0 4 0), (4, .lref 1 0 4 0), (48, .agg [I x4.now.lo, I x4.now.hi, I x4.cost, I x4.error]), (47, .ptr (.agg [I x4.now.lo, I x4.now.hi, I x4.cost, I x4.error])), (46, I ((i4 : Nat) : Int)), (45, .sl e.items.nl (e.items.l.map S_Item.D) (zsl e.items.nl 4) none), (44, .lref 0 0 3 0), (41, B true), (40, I ((e.items.l.length : Nat) : Int)), (39, .sl e.items.nl (e.items.l.map S_Item.D) (zsl e.items.nl 4) none), (38, .lref 0 0 3 0), (37, I ((i4 : Nat) : Int)), (1, .lref 0 0 3 0), (3, I ((i4 : Nat) : Int))], [(0, ⟨[.agg [.sl e.items.nl (e.items.l.map S_Item.D) (zsl e.items.nl 4) none, I e.whole.lo, I e.whole.hi]], 3, false⟩), (1, ⟨[.agg [I x4.now.lo, I x4.now.hi, I x4.cost, I x4.error]], 4, false⟩)], 2, 0⟩)
  | .x4 i4 x4 => (.ret, ⟨104, [(2, B false), (87, B true), (86, .tup []), (85, .tup []), (84, .tup []), (83, B true), (82, B true), (81, .tup []), (80, .tup []), (79, .tup []), (78, B true), (77, B true), (76, .tup []), (75, .tup []), (74, .tup []), (73, B true), (72, B true), (71, B true), (70, I x4.cost), (69, .lref 1 0 4 2), (68, B false), (67, B false), (66, B false), (65, I x4.now.hi), (64, .lref 1 0 4 1), (63, .lref 1 0 4 0), (62, B false), (61, B false), (60, B false), (59, I x4.now.hi), (58, .lref 1 0 4 1), (57, .lref 1 0 4 0), (56, I x4.now.lo), (55, .lref 1 0 4 0), (54, .lref 1 0 4 0), (53, B false), (52, B false), (51, I x4.now.lo), (50, .lref 1 0 4 0), (49, .lref 1 0 4 0), (4, .lref 1 0 4 0), (48, .agg [I x4.now.lo, I x4.now.hi, I x4.cost, I x4.error]), (47, .ptr (.agg [I x4.now.lo, I x4.now.hi, I x4.cost, I x4.error])), (46, I ((i4 : Nat) : Int)), (45, .sl e.items.nl (e.items.l.map S_Item.D) (zsl e.items.nl 4) none), (44, .lref 0 0 3 0), (41, B true), (40, I ((e.items.l.length : Nat) : Int)), (39, .sl e.items.nl (e.items.l.map S_Item.D) (zsl e.items.nl 4) none), (38, .lref 0 0 3 0), (37, I ((i4 : Nat) : Int)), (1, .lref 0 0 3 0), (3, I ((i4 : Nat) : Int))], [(0, ⟨[.agg [.sl e.items.nl (e.items.l.map S_Item.D) (zsl e.items.nl 4) none, I e.whole.lo, I e.whole.hi]], 3, false⟩), (1, ⟨[.agg [I x4.now.lo, I x4.now.hi, I x4.cost, I x4.error]], 4, false⟩)], 2, 0⟩)
  | .x5 i4 x4 => (.ret, ⟨104, [(2, B false), (87, B true), (86, .tup []), (85, .tup []), (84, .tup []), (83, B true), (82, B true), (81, .tup []), (80, .tup []), (79, .tup []), (78, B true), (77, B true), (76, B true), (75, I x4.cost), (74, .lref 1 0 4 2), (73, B false), (72, B false), (71, B false), (70, I x4.cost), (69, .lref 1 0 4 2), (68, B false), (67, B false), (66, B false), (65, I x4.now.hi), (64, .lref 1 0 4 1), (63, .lref 1 0 4 0), (62, B false), (61, B false), (60, B false), (59, I x4.now.hi), (58, .lref 1 0 4 1), (57, .lref 1 0 4 0), (56, I x4.now.lo), (55, .lref 1 0 4 0), (54, .lref 1 0 4 0), (53, B false), (52, B false), (51, I x4.now.lo), (50, .lref 1 0 4 0), (49, .lref 1 0 4 0), (4, .lref 1 0 4 0), (48, .agg [I x4.now.lo, I x4.now.hi, I x4.cost, I x4.error]), (47, .ptr (.agg [I x4.now.lo, I x4.now.hi, I x4.cost, I x4.error])), (46, I ((i4 : Nat) : Int)), (45, .sl e.items.nl (e.items.l.map S_Item.D) (zsl e.items.nl 4) none), (44, .lref 0 0 3 0), (41, B true), (40, I ((e.items.l.length : Nat) : Int)), (39, .sl e.items.nl (e.items.l.map S_Item.D) (zsl e.items.nl 4) none), (38, .lref 0 0 3 0), (37, I ((i4 : Nat) : Int)), (1, .lref 0 0 3 0), (3, I ((i4 : Nat) : Int))], [(0, ⟨[.agg [.sl e.items.nl (e.items.l.map S_Item.D) (zsl e.items.nl 4) none, I e.whole.lo, I e.whole.hi]], 3, false⟩), (1, ⟨[.agg [I x4.now.lo, I x4.now.hi, I x4.cost, I x4.error]], 4, false⟩)], 2, 0⟩)
  | .x6 i4 x4 => (.ret, ⟨104, [(2, B false), (87, B true), (86, .tup []), (85, .tup []), (84, .tup []), (83, B true), (82, B true), (81, B true), (80, I x4.error), (79, .lref 1 0 4 3), (78, B false), (77, B false), (76, B false), (75, I x4.cost), (74, .lref 1 0 4 2), (73, B false), (72, B false), (71, B false), (70, I x4.cost), (69, .lref 1 0 4 2), (68, B false), (67, B false), (66, B false), (65, I x4.now.hi), (64, .lref 1 0 4 1), (63, .lref 1 0 4 0), (62, B false), (61, B false), (60, B false), (59, I x4.now.hi), (58, .lref 1 0 4 1), (57, .lref 1 0 4 0), (56, I x4.now.lo), (55, .lref 1 0 4 0), (54, .lref 1 0 4 0), (53, B false), (52, B false), (51, I x4.now.lo), (50, .lref 1 0 4 0), (49, .lref 1 0 4 0), (4, .lref 1 0 4 0), (48, .agg [I x4.now.lo, I x4.now.hi, I x4.cost, I x4.error]), (47, .ptr (.agg [I x4.now.lo, I x4.now.hi, I x4.cost, I x4.error])), (46, I ((i4 : Nat) : Int)), (45, .sl e.items.nl (e.items.l.map S_Item.D) (zsl e.items.nl 4) none), (44, .lref 0 0 3 0), (41, B true), (40, I ((e.items.l.length : Nat) : Int)), (39, .sl e.items.nl (e.items.l.map S_Item.D) (zsl e.items.nl 4) none), (38, .lref 0 0 3 0), (37, I ((i4 : Nat) : Int)), (1, .lref 0 0 3 0), (3, I ((i4 : Nat) : Int))], [(0, ⟨[.agg [.sl e.items.nl (e.items.l.map S_Item.D) (zsl e.items.nl 4) none, I e.whole.lo, I e.whole.hi]], 3, false⟩), (1, ⟨[.agg [I x4.now.lo, I x4.now.hi, I x4.cost, I x4.error]], 4, false⟩)], 2, 0⟩)
  | .x7 i4 x4 => (.ret, ⟨104, [(2, B false), (87, B true), (86, B true), (85, I x4.error), (84, .lref 1 0 4 3), (83, B false), (82, B false), (81, B false), (80, I x4.error), (79, .lref 1 0 4 3), (78, B false), (77, B false), (76, B false), (75, I x4.cost), (74, .lref 1 0 4 2), (73, B false), (72, B false), (71, B false), (70, I x4.cost), (69, .lref 1 0 4 2), (68, B false), (67, B false), (66, B false), (65, I x4.now.hi), (64, .lref 1 0 4 1), (63, .lref 1 0 4 0), (62, B false), (61, B false), (60, B false), (59, I x4.now.hi), (58, .lref 1 0 4 1), (57, .lref 1 0 4 0), (56, I x4.now.lo), (55, .lref 1 0 4 0), (54, .lref 1 0 4 0), (53, B false), (52, B false), (51, I x4.now.lo), (50, .lref 1 0 4 0), (49, .lref 1 0 4 0), (4, .lref 1 0 4 0), (48, .agg [I x4.now.lo, I x4.now.hi, I x4.cost, I x4.error]), (47, .ptr (.agg [I x4.now.lo, I x4.now.hi, I x4.cost, I x4.error])), (46, I ((i4 : Nat) : Int)), (45, .sl e.items.nl (e.items.l.map S_Item.D) (zsl e.items.nl 4) none), (44, .lref 0 0 3 0), (41, B true), (40, I ((e.items.l.length : Nat) : Int)), (39, .sl e.items.nl (e.items.l.map S_Item.D) (zsl e.items.nl 4) none), (38, .lref 0 0 3 0), (37, I ((i4 : Nat) : Int)), (1, .lref 0 0 3 0), (3, I ((i4 : Nat) : Int))], [(0, ⟨[.agg [.sl e.items.nl (e.items.l.map S_Item.D) (zsl e.items.nl 4) none, I e.whole.lo, I e.whole.hi]], 3, false⟩), (1, ⟨[.agg [I x4.now.lo, I x4.now.hi, I x4.cost, I x4.error]], 4, false⟩)], 2, 0⟩)
def r_Valid_4_l_o1 (e : S_Estate) (x4 : S_Item) : List Ora := [.rw 40 (I ((e.items.l.length : Nat) : Int)), .dec true, .el (.agg [I x4.now.lo, I x4.now.hi, I x4.cost, I x4.error]), .dec false]
theorem lp_r_Valid_4 (e : S_Estate) : ∀ (rest4 : List S_Item) (i4 : Nat) (hd4 : e.items.l.drop i4 = rest4) (hi4 : i4 ≤ e.items.l.length) (hL4 : e.items.l.length ≤ 9223372036854775807), (lim cfg).loop 19 lp19_4 ⟨104, [(1, .lref 0 0 3 0), (3, I ((i4 : Nat) : Int))], [(0, ⟨[.agg [.sl e.items.nl (e.items.l.map S_Item.D) (zsl e.items.nl 4) none, I e.whole.lo, I e.whole.hi]], 3, false⟩)], 1, 0⟩ = some (lr_r_Valid_4 e (r_Valid_4 rest4 i4)) := by
  intro rest4
  induction rest4 with
  | nil =>
    intro i4 hd4 hi4 hL4
    unfold r_Valid_4
    obtain rfl : i4 = e.items.l.length := nil_eq hd4 hi4
    exact zF [.rw 40 (I ((e.items.l.length : Nat) : Int)), .dec false] (And.intro (lt_no hd4) (And.intro (zt S_Item.D e.items) trivial)) (by kernel_rfl)
  | cons x4 rest4 ih =>
    intro i4 hd4 hi4 hL4
    have hlt4 := zw hd4
    unfold r_Valid_4
    have p1 := (el_at (s := e.items) (f := S_Item.D) (k := 4) hd4)
    cases h13 : decide (x4.now.lo < 0) with
    | true =>
      have g13 := of_decide_eq_true h13
      exact zF [.rw 40 (I ((e.items.l.length : Nat) : Int)), .dec true, .el (.agg [I x4.now.lo, I x4.now.hi, I x4.cost, I x4.error]), .dec true] (And.intro h13 (And.intro p1 (And.intro (lt_at hd4) (And.intro (zt S_Item.D e.items) trivial)))) (by kernel_rfl)
    | false =>
      have g13 := of_decide_eq_false h13
      cases h14 : decide (x4.now.lo > x4.now.hi) with
      | true =>
        have g14 := of_decide_eq_true h14
        exact zF ((r_Valid_4_l_o1 e x4) ++ [.dec true]) (And.intro h14 (And.intro h13 (And.intro p1 (And.intro (lt_at hd4) (And.intro (zt S_Item.D e.items) trivial))))) (by kernel_rfl)
      | false =>
        have g14 := of_decide_eq_false h14
        cases h15 : decide (x4.now.hi > 1073741824) with
        | true =>
          have g15 := of_decide_eq_true h15
          exact zF ((r_Valid_4_l_o1 e x4) ++ [.dec false, .dec true]) (And.intro h15 (And.intro h14 (And.intro h13 (And.intro p1 (And.intro (lt_at hd4) (And.intro (zt S_Item.D e.items) trivial)))))) (by kernel_rfl)
        | false =>
          have g15 := of_decide_eq_false h15
          cases h16 : decide (x4.cost < 0) with
          | true =>
            have g16 := of_decide_eq_true h16
            exact zF ((r_Valid_4_l_o1 e x4) ++ [.dec false, .dec false, .dec true]) (And.intro h16 (And.intro h15 (And.intro h14 (And.intro h13 (And.intro p1 (And.intro (lt_at hd4) (And.intro (zt S_Item.D e.items) trivial))))))) (by kernel_rfl)
          | false =>
            have g16 := of_decide_eq_false h16
            cases h17 : decide (x4.cost > 10000) with
            | true =>
              have g17 := of_decide_eq_true h17
              exact zF ((r_Valid_4_l_o1 e x4) ++ [.dec false, .dec false, .dec false, .dec true]) (And.intro h17 (And.intro h16 (And.intro h15 (And.intro h14 (And.intro h13 (And.intro p1 (And.intro (lt_at hd4) (And.intro (zt S_Item.D e.items) trivial)))))))) (by kernel_rfl)
            | false =>
              have g17 := of_decide_eq_false h17
              cases h18 : decide (x4.error < 0) with
              | true =>
                have g18 := of_decide_eq_true h18
                exact zF ((r_Valid_4_l_o1 e x4) ++ [.dec false, .dec false, .dec false, .dec false, .dec true]) (And.intro h18 (And.intro h17 (And.intro h16 (And.intro h15 (And.intro h14 (And.intro h13 (And.intro p1 (And.intro (lt_at hd4) (And.intro (zt S_Item.D e.items) trivial))))))))) (by kernel_rfl)
              | false =>
                have g18 := of_decide_eq_false h18
                cases h19 : decide (x4.error > 1048576) with
                | true =>
                  have g19 := of_decide_eq_true h19
                  exact zF ((r_Valid_4_l_o1 e x4) ++ [.dec false, .dec false, .dec false, .dec false, .dec false, .dec true]) (And.intro h19 (And.intro h18 (And.intro h17 (And.intro h16 (And.intro h15 (And.intro h14 (And.intro h13 (And.intro p1 (And.intro (lt_at hd4) (And.intro (zt S_Item.D e.items) trivial)))))))))) (by kernel_rfl)
                | false =>
                  have g19 := of_decide_eq_false h19
                  exact po_turn ((r_Valid_4_l_o1 e x4) ++ [.dec false, .dec false, .dec false, .dec false, .dec false, .dec false, .rw 43 (I ((i4 + 1 : Nat) : Int))]) (And.intro (inc_rw (i := i4) (by have := zw hd4; omega)) (And.intro h19 (And.intro h18 (And.intro h17 (And.intro h16 (And.intro h15 (And.intro h14 (And.intro h13 (And.intro p1 (And.intro (lt_at hd4) (And.intro (zt S_Item.D e.items) trivial))))))))))) (ih (i4 + 1) (zH hd4) (zw hd4) (by first | assumption | omega | (simp only [zd] at * <;> omega) | (simp only [zb, GS.some_l, List.length_set, List.length_append, List.length_cons, List.length_nil] at * <;> first | with_reducible assumption | omega) | (simp only [zb, GS.some_l, List.length_set, List.length_append, List.length_cons, List.length_nil, zd] at * <;> first | with_reducible assumption | omega) | (simp at * <;> omega))) (by kernel_rfl)

def r_Valid (e : S_Estate) : Bool :=
  bif decide (((e.items.l.length : Nat) : Int) < 1) then
    false
  else
    bif decide (((e.items.l.length : Nat) : Int) > 12) then
      false
    else
      bif decide (e.whole.lo < 0) then
        false
      else
        bif decide (e.whole.lo > e.whole.hi) then
          false
        else
          bif decide (e.whole.hi > 17179869184) then
            false
          else
            match r_Valid_4 e.items.l 0 with
            | .x0 =>
              bif decide (((r_All e).lo) ≤ e.whole.hi) then
                bif decide (((r_All e).hi) ≥ e.whole.lo) then
                  true
                else
                  false
              else
                false
            | .x1 i4 x4 =>
              false
            | .x2 i4 x4 =>
              false
            | .x3 i4 x4 =>
              false
            | .x4 i4 x4 =>
              false
            | .x5 i4 x4 =>
              false
            | .x6 i4 x4 =>
              false
            | .x7 i4 x4 =>
              false

def r_Valid_o1 (e : S_Estate) : List Ora := [.rw 8 (I ((e.items.l.length : Nat) : Int)), .dec false, .rw 13 (I ((e.items.l.length : Nat) : Int)), .dec false, .dec false]

def sd10 (e : S_Estate) : St := ⟨104, [(41, B false), (40, I ((e.items.l.length : Nat) : Int)), (39, .sl e.items.nl (e.items.l.map S_Item.D) (zsl e.items.nl 4) none), (38, .lref 0 0 3 0), (37, I ((e.items.l.length : Nat) : Int)), (1, .lref 0 0 3 0), (3, I ((e.items.l.length : Nat) : Int))], [(0, ⟨[.agg [.sl e.items.nl (e.items.l.map S_Item.D) (zsl e.items.nl 4) none, I e.whole.lo, I e.whole.hi]], 3, false⟩)], 1, 0⟩

def sd11 (e : S_Estate) (i4 : Nat) (x4 : S_Item) : St := ⟨104, [(2, B false), (87, B true), (86, .tup []), (85, .tup []), (84, .tup []), (83, B true), (82, B true), (81, .tup []), (80, .tup []), (79, .tup []), (78, B true), (77, B true), (76, .tup []), (75, .tup []), (74, .tup []), (73, B true), (72, B true), (71, .tup []), (70, .tup []), (69, .tup []), (68, B true), (67, B true), (66, .tup []), (65, .tup []), (64, .tup []), (63, .tup []), (62, B true), (61, B true), (60, .tup []), (59, .tup []), (58, .tup []), (57, .tup []), (56, .tup []), (55, .tup []), (54, .tup []), (53, B true), (52, B true), (51, I x4.now.lo), (50, .lref 1 0 4 0), (49, .lref 1 0 4 0), (4, .lref 1 0 4 0), (48, .agg [I x4.now.lo, I x4.now.hi, I x4.cost, I x4.error]), (47, .ptr (.agg [I x4.now.lo, I x4.now.hi, I x4.cost, I x4.error])), (46, I ((i4 : Nat) : Int)), (45, .sl e.items.nl (e.items.l.map S_Item.D) (zsl e.items.nl 4) none), (44, .lref 0 0 3 0), (41, B true), (40, I ((e.items.l.length : Nat) : Int)), (39, .sl e.items.nl (e.items.l.map S_Item.D) (zsl e.items.nl 4) none), (38, .lref 0 0 3 0), (37, I ((i4 : Nat) : Int)), (1, .lref 0 0 3 0), (3, I ((i4 : Nat) : Int))], [(0, ⟨[.agg [.sl e.items.nl (e.items.l.map S_Item.D) (zsl e.items.nl 4) none, I e.whole.lo, I e.whole.hi]], 3, false⟩), (1, ⟨[.agg [I x4.now.lo, I x4.now.hi, I x4.cost, I x4.error]], 4, false⟩)], 2, 0⟩

def sd12 (e : S_Estate) (i4 : Nat) (x4 : S_Item) : St := ⟨104, [(2, B false), (87, B true), (86, .tup []), (85, .tup []), (84, .tup []), (83, B true), (82, B true), (81, .tup []), (80, .tup []), (79, .tup []), (78, B true), (77, B true), (76, .tup []), (75, .tup []), (74, .tup []), (73, B true), (72, B true), (71, .tup []), (70, .tup []), (69, .tup []), (68, B true), (67, B true), (66, .tup []), (65, .tup []), (64, .tup []), (63, .tup []), (62, B true), (61, B true), (60, B true), (59, I x4.now.hi), (58, .lref 1 0 4 1), (57, .lref 1 0 4 0), (56, I x4.now.lo), (55, .lref 1 0 4 0), (54, .lref 1 0 4 0), (53, B false), (52, B false), (51, I x4.now.lo), (50, .lref 1 0 4 0), (49, .lref 1 0 4 0), (4, .lref 1 0 4 0), (48, .agg [I x4.now.lo, I x4.now.hi, I x4.cost, I x4.error]), (47, .ptr (.agg [I x4.now.lo, I x4.now.hi, I x4.cost, I x4.error])), (46, I ((i4 : Nat) : Int)), (45, .sl e.items.nl (e.items.l.map S_Item.D) (zsl e.items.nl 4) none), (44, .lref 0 0 3 0), (41, B true), (40, I ((e.items.l.length : Nat) : Int)), (39, .sl e.items.nl (e.items.l.map S_Item.D) (zsl e.items.nl 4) none), (38, .lref 0 0 3 0), (37, I ((i4 : Nat) : Int)), (1, .lref 0 0 3 0), (3, I ((i4 : Nat) : Int))], [(0, ⟨[.agg [.sl e.items.nl (e.items.l.map S_Item.D) (zsl e.items.nl 4) none, I e.whole.lo, I e.whole.hi]], 3, false⟩), (1, ⟨[.agg [I x4.now.lo, I x4.now.hi, I x4.cost, I x4.error]], 4, false⟩)], 2, 0⟩

def sd13 (e : S_Estate) (i4 : Nat) (x4 : S_Item) : St := ⟨104, [(2, B false), (87, B true), (86, .tup []), (85, .tup []), (84, .tup []), (83, B true), (82, B true), (81, .tup []), (80, .tup []), (79, .tup []), (78, B true), (77, B true), (76, .tup []), (75, .tup []), (74, .tup []), (73, B true), (72, B true), (71, .tup []), (70, .tup []), (69, .tup []), (68, B true), (67, B true), (66, B true), (65, I x4.now.hi), (64, .lref 1 0 4 1), (63, .lref 1 0 4 0), (62, B false), (61, B false), (60, B false), (59, I x4.now.hi), (58, .lref 1 0 4 1), (57, .lref 1 0 4 0), (56, I x4.now.lo), (55, .lref 1 0 4 0), (54, .lref 1 0 4 0), (53, B false), (52, B false), (51, I x4.now.lo), (50, .lref 1 0 4 0), (49, .lref 1 0 4 0), (4, .lref 1 0 4 0), (48, .agg [I x4.now.lo, I x4.now.hi, I x4.cost, I x4.error]), (47, .ptr (.agg [I x4.now.lo, I x4.now.hi, I x4.cost, I x4.error])), (46, I ((i4 : Nat) : Int)), (45, .sl e.items.nl (e.items.l.map S_Item.D) (zsl e.items.nl 4) none), (44, .lref 0 0 3 0), (41, B true), (40, I ((e.items.l.length : Nat) : Int)), (39, .sl e.items.nl (e.items.l.map S_Item.D) (zsl e.items.nl 4) none), (38, .lref 0 0 3 0), (37, I ((i4 : Nat) : Int)), (1, .lref 0 0 3 0), (3, I ((i4 : Nat) : Int))], [(0, ⟨[.agg [.sl e.items.nl (e.items.l.map S_Item.D) (zsl e.items.nl 4) none, I e.whole.lo, I e.whole.hi]], 3, false⟩), (1, ⟨[.agg [I x4.now.lo, I x4.now.hi, I x4.cost, I x4.error]], 4, false⟩)], 2, 0⟩

def sd14 (e : S_Estate) (i4 : Nat) (x4 : S_Item) : St := ⟨104, [(2, B false), (87, B true), (86, .tup []), (85, .tup []), (84, .tup []), (83, B true), (82, B true), (81, .tup []), (80, .tup []), (79, .tup []), (78, B true), (77, B true), (76, .tup []), (75, .tup []), (74, .tup []), (73, B true), (72, B true), (71, B true), (70, I x4.cost), (69, .lref 1 0 4 2), (68, B false), (67, B false), (66, B false), (65, I x4.now.hi), (64, .lref 1 0 4 1), (63, .lref 1 0 4 0), (62, B false), (61, B false), (60, B false), (59, I x4.now.hi), (58, .lref 1 0 4 1), (57, .lref 1 0 4 0), (56, I x4.now.lo), (55, .lref 1 0 4 0), (54, .lref 1 0 4 0), (53, B false), (52, B false), (51, I x4.now.lo), (50, .lref 1 0 4 0), (49, .lref 1 0 4 0), (4, .lref 1 0 4 0), (48, .agg [I x4.now.lo, I x4.now.hi, I x4.cost, I x4.error]), (47, .ptr (.agg [I x4.now.lo, I x4.now.hi, I x4.cost, I x4.error])), (46, I ((i4 : Nat) : Int)), (45, .sl e.items.nl (e.items.l.map S_Item.D) (zsl e.items.nl 4) none), (44, .lref 0 0 3 0), (41, B true), (40, I ((e.items.l.length : Nat) : Int)), (39, .sl e.items.nl (e.items.l.map S_Item.D) (zsl e.items.nl 4) none), (38, .lref 0 0 3 0), (37, I ((i4 : Nat) : Int)), (1, .lref 0 0 3 0), (3, I ((i4 : Nat) : Int))], [(0, ⟨[.agg [.sl e.items.nl (e.items.l.map S_Item.D) (zsl e.items.nl 4) none, I e.whole.lo, I e.whole.hi]], 3, false⟩), (1, ⟨[.agg [I x4.now.lo, I x4.now.hi, I x4.cost, I x4.error]], 4, false⟩)], 2, 0⟩

def sd15 (e : S_Estate) (i4 : Nat) (x4 : S_Item) : St := ⟨104, [(2, B false), (87, B true), (86, .tup []), (85, .tup []), (84, .tup []), (83, B true), (82, B true), (81, .tup []), (80, .tup []), (79, .tup []), (78, B true), (77, B true), (76, B true), (75, I x4.cost), (74, .lref 1 0 4 2), (73, B false), (72, B false), (71, B false), (70, I x4.cost), (69, .lref 1 0 4 2), (68, B false), (67, B false), (66, B false), (65, I x4.now.hi), (64, .lref 1 0 4 1), (63, .lref 1 0 4 0), (62, B false), (61, B false), (60, B false), (59, I x4.now.hi), (58, .lref 1 0 4 1), (57, .lref 1 0 4 0), (56, I x4.now.lo), (55, .lref 1 0 4 0), (54, .lref 1 0 4 0), (53, B false), (52, B false), (51, I x4.now.lo), (50, .lref 1 0 4 0), (49, .lref 1 0 4 0), (4, .lref 1 0 4 0), (48, .agg [I x4.now.lo, I x4.now.hi, I x4.cost, I x4.error]), (47, .ptr (.agg [I x4.now.lo, I x4.now.hi, I x4.cost, I x4.error])), (46, I ((i4 : Nat) : Int)), (45, .sl e.items.nl (e.items.l.map S_Item.D) (zsl e.items.nl 4) none), (44, .lref 0 0 3 0), (41, B true), (40, I ((e.items.l.length : Nat) : Int)), (39, .sl e.items.nl (e.items.l.map S_Item.D) (zsl e.items.nl 4) none), (38, .lref 0 0 3 0), (37, I ((i4 : Nat) : Int)), (1, .lref 0 0 3 0), (3, I ((i4 : Nat) : Int))], [(0, ⟨[.agg [.sl e.items.nl (e.items.l.map S_Item.D) (zsl e.items.nl 4) none, I e.whole.lo, I e.whole.hi]], 3, false⟩), (1, ⟨[.agg [I x4.now.lo, I x4.now.hi, I x4.cost, I x4.error]], 4, false⟩)], 2, 0⟩

def sd16 (e : S_Estate) (i4 : Nat) (x4 : S_Item) : St := ⟨104, [(2, B false), (87, B true), (86, .tup []), (85, .tup []), (84, .tup []), (83, B true), (82, B true), (81, B true), (80, I x4.error), (79, .lref 1 0 4 3), (78, B false), (77, B false), (76, B false), (75, I x4.cost), (74, .lref 1 0 4 2), (73, B false), (72, B false), (71, B false), (70, I x4.cost), (69, .lref 1 0 4 2), (68, B false), (67, B false), (66, B false), (65, I x4.now.hi), (64, .lref 1 0 4 1), (63, .lref 1 0 4 0), (62, B false), (61, B false), (60, B false), (59, I x4.now.hi), (58, .lref 1 0 4 1), (57, .lref 1 0 4 0), (56, I x4.now.lo), (55, .lref 1 0 4 0), (54, .lref 1 0 4 0), (53, B false), (52, B false), (51, I x4.now.lo), (50, .lref 1 0 4 0), (49, .lref 1 0 4 0), (4, .lref 1 0 4 0), (48, .agg [I x4.now.lo, I x4.now.hi, I x4.cost, I x4.error]), (47, .ptr (.agg [I x4.now.lo, I x4.now.hi, I x4.cost, I x4.error])), (46, I ((i4 : Nat) : Int)), (45, .sl e.items.nl (e.items.l.map S_Item.D) (zsl e.items.nl 4) none), (44, .lref 0 0 3 0), (41, B true), (40, I ((e.items.l.length : Nat) : Int)), (39, .sl e.items.nl (e.items.l.map S_Item.D) (zsl e.items.nl 4) none), (38, .lref 0 0 3 0), (37, I ((i4 : Nat) : Int)), (1, .lref 0 0 3 0), (3, I ((i4 : Nat) : Int))], [(0, ⟨[.agg [.sl e.items.nl (e.items.l.map S_Item.D) (zsl e.items.nl 4) none, I e.whole.lo, I e.whole.hi]], 3, false⟩), (1, ⟨[.agg [I x4.now.lo, I x4.now.hi, I x4.cost, I x4.error]], 4, false⟩)], 2, 0⟩

def sd17 (e : S_Estate) (i4 : Nat) (x4 : S_Item) : St := ⟨104, [(2, B false), (87, B true), (86, B true), (85, I x4.error), (84, .lref 1 0 4 3), (83, B false), (82, B false), (81, B false), (80, I x4.error), (79, .lref 1 0 4 3), (78, B false), (77, B false), (76, B false), (75, I x4.cost), (74, .lref 1 0 4 2), (73, B false), (72, B false), (71, B false), (70, I x4.cost), (69, .lref 1 0 4 2), (68, B false), (67, B false), (66, B false), (65, I x4.now.hi), (64, .lref 1 0 4 1), (63, .lref 1 0 4 0), (62, B false), (61, B false), (60, B false), (59, I x4.now.hi), (58, .lref 1 0 4 1), (57, .lref 1 0 4 0), (56, I x4.now.lo), (55, .lref 1 0 4 0), (54, .lref 1 0 4 0), (53, B false), (52, B false), (51, I x4.now.lo), (50, .lref 1 0 4 0), (49, .lref 1 0 4 0), (4, .lref 1 0 4 0), (48, .agg [I x4.now.lo, I x4.now.hi, I x4.cost, I x4.error]), (47, .ptr (.agg [I x4.now.lo, I x4.now.hi, I x4.cost, I x4.error])), (46, I ((i4 : Nat) : Int)), (45, .sl e.items.nl (e.items.l.map S_Item.D) (zsl e.items.nl 4) none), (44, .lref 0 0 3 0), (41, B true), (40, I ((e.items.l.length : Nat) : Int)), (39, .sl e.items.nl (e.items.l.map S_Item.D) (zsl e.items.nl 4) none), (38, .lref 0 0 3 0), (37, I ((i4 : Nat) : Int)), (1, .lref 0 0 3 0), (3, I ((i4 : Nat) : Int))], [(0, ⟨[.agg [.sl e.items.nl (e.items.l.map S_Item.D) (zsl e.items.nl 4) none, I e.whole.lo, I e.whole.hi]], 3, false⟩), (1, ⟨[.agg [I x4.now.lo, I x4.now.hi, I x4.cost, I x4.error]], 4, false⟩)], 2, 0⟩

theorem T_r_Valid (e : S_Estate) : (lim cfg).pure 19 [S_Estate.D e] = some (B (r_Valid e)) := by
  unfold r_Valid
  cases h1 : decide (((e.items.l.length : Nat) : Int) < 1) with
  | true =>
    have g1 := of_decide_eq_true h1
    exact zu [.rw 8 (I ((e.items.l.length : Nat) : Int)), .dec true] (And.intro h1 (And.intro (zt S_Item.D e.items) trivial)) (by kernel_rfl)
  | false =>
    have g1 := of_decide_eq_false h1
    cases h2 : decide (((e.items.l.length : Nat) : Int) > 12) with
    | true =>
      have g2 := of_decide_eq_true h2
      exact zu [.rw 8 (I ((e.items.l.length : Nat) : Int)), .dec false, .rw 13 (I ((e.items.l.length : Nat) : Int)), .dec true] (And.intro h2 (And.intro (zt S_Item.D e.items) (And.intro h1 (And.intro (zt S_Item.D e.items) trivial)))) (by kernel_rfl)
    | false =>
      have g2 := of_decide_eq_false h2
      cases h3 : decide (e.whole.lo < 0) with
      | true =>
        have g3 := of_decide_eq_true h3
        exact zu [.rw 8 (I ((e.items.l.length : Nat) : Int)), .dec false, .rw 13 (I ((e.items.l.length : Nat) : Int)), .dec false, .dec true] (And.intro h3 (And.intro h2 (And.intro (zt S_Item.D e.items) (And.intro h1 (And.intro (zt S_Item.D e.items) trivial))))) (by kernel_rfl)
      | false =>
        have g3 := of_decide_eq_false h3
        cases h4 : decide (e.whole.lo > e.whole.hi) with
        | true =>
          have g4 := of_decide_eq_true h4
          exact zu ((r_Valid_o1 e) ++ [.dec true]) (And.intro h4 (And.intro h3 (And.intro h2 (And.intro (zt S_Item.D e.items) (And.intro h1 (And.intro (zt S_Item.D e.items) trivial)))))) (by kernel_rfl)
        | false =>
          have g4 := of_decide_eq_false h4
          cases h5 : decide (e.whole.hi > 17179869184) with
          | true =>
            have g5 := of_decide_eq_true h5
            exact zu ((r_Valid_o1 e) ++ [.dec false, .dec true]) (And.intro h5 (And.intro h4 (And.intro h3 (And.intro h2 (And.intro (zt S_Item.D e.items) (And.intro h1 (And.intro (zt S_Item.D e.items) trivial))))))) (by kernel_rfl)
          | false =>
            have g5 := of_decide_eq_false h5
            cases h20 : r_Valid_4 e.items.l 0 with
            | x0 =>
              try dsimp only
              have p1 := (po_lr (q := lr_r_Valid_4 e) (lp_r_Valid_4 e e.items.l 0 (List.drop_zero) (Nat.zero_le _) (by first | assumption | omega | (simp only [zd] at * <;> omega) | (simp only [zb, GS.some_l, List.length_set, List.length_append, List.length_cons, List.length_nil] at * <;> first | with_reducible assumption | omega) | (simp only [zb, GS.some_l, List.length_set, List.length_append, List.length_cons, List.length_nil, zd] at * <;> first | with_reducible assumption | omega) | (simp at * <;> omega))) h20)
              cases h21 : decide (((r_All e).lo) ≤ e.whole.hi) with
              | true =>
                have g21 := of_decide_eq_true h21
                cases h22 : decide (((r_All e).hi) ≥ e.whole.lo) with
                | true =>
                  have g22 := of_decide_eq_true h22
                  exact zu ((r_Valid_o1 e) ++ [.dec false, .dec false, .loop (.exit 0) (sd10 e), .pure (.agg [I ((r_All e).lo), I ((r_All e).hi)]), .dec true, .dec true]) (And.intro h22 (And.intro h21 (And.intro (T_r_All e (by first | assumption | omega | (simp only [zd] at * <;> omega) | (simp only [zb, GS.some_l, List.length_set, List.length_append, List.length_cons, List.length_nil] at * <;> first | with_reducible assumption | omega) | (simp only [zb, GS.some_l, List.length_set, List.length_append, List.length_cons, List.length_nil, zd] at * <;> first | with_reducible assumption | omega) | (simp at * <;> omega))) (And.intro p1 (And.intro h5 (And.intro h4 (And.intro h3 (And.intro h2 (And.intro (zt S_Item.D e.items) (And.intro h1 (And.intro (zt S_Item.D e.items) trivial))))))))))) (by kernel_rfl)
                | false =>
                  have g22 := of_decide_eq_false h22
                  exact zu ((r_Valid_o1 e) ++ [.dec false, .dec false, .loop (.exit 0) (sd10 e), .pure (.agg [I ((r_All e).lo), I ((r_All e).hi)]), .dec true, .dec false]) (And.intro h22 (And.intro h21 (And.intro (T_r_All e (by first | assumption | omega | (simp only [zd] at * <;> omega) | (simp only [zb, GS.some_l, List.length_set, List.length_append, List.length_cons, List.length_nil] at * <;> first | with_reducible assumption | omega) | (simp only [zb, GS.some_l, List.length_set, List.length_append, List.length_cons, List.length_nil, zd] at * <;> first | with_reducible assumption | omega) | (simp at * <;> omega))) (And.intro p1 (And.intro h5 (And.intro h4 (And.intro h3 (And.intro h2 (And.intro (zt S_Item.D e.items) (And.intro h1 (And.intro (zt S_Item.D e.items) trivial))))))))))) (by kernel_rfl)
              | false =>
                have g21 := of_decide_eq_false h21
                exact zu ((r_Valid_o1 e) ++ [.dec false, .dec false, .loop (.exit 0) (sd10 e), .pure (.agg [I ((r_All e).lo), I ((r_All e).hi)]), .dec false]) (And.intro h21 (And.intro (T_r_All e (by first | assumption | omega | (simp only [zd] at * <;> omega) | (simp only [zb, GS.some_l, List.length_set, List.length_append, List.length_cons, List.length_nil] at * <;> first | with_reducible assumption | omega) | (simp only [zb, GS.some_l, List.length_set, List.length_append, List.length_cons, List.length_nil, zd] at * <;> first | with_reducible assumption | omega) | (simp at * <;> omega))) (And.intro p1 (And.intro h5 (And.intro h4 (And.intro h3 (And.intro h2 (And.intro (zt S_Item.D e.items) (And.intro h1 (And.intro (zt S_Item.D e.items) trivial)))))))))) (by kernel_rfl)
            | x1 i4 x4 =>
              try dsimp only
              exact zu ((r_Valid_o1 e) ++ [.dec false, .dec false, .loop .ret (sd11 e i4 x4)]) (And.intro (po_lr (q := lr_r_Valid_4 e) (lp_r_Valid_4 e e.items.l 0 (List.drop_zero) (Nat.zero_le _) (by first | assumption | omega | (simp only [zd] at * <;> omega) | (simp only [zb, GS.some_l, List.length_set, List.length_append, List.length_cons, List.length_nil] at * <;> first | with_reducible assumption | omega) | (simp only [zb, GS.some_l, List.length_set, List.length_append, List.length_cons, List.length_nil, zd] at * <;> first | with_reducible assumption | omega) | (simp at * <;> omega))) h20) (And.intro h5 (And.intro h4 (And.intro h3 (And.intro h2 (And.intro (zt S_Item.D e.items) (And.intro h1 (And.intro (zt S_Item.D e.items) trivial)))))))) (by kernel_rfl)
            | x2 i4 x4 =>
              try dsimp only
              exact zu ((r_Valid_o1 e) ++ [.dec false, .dec false, .loop .ret (sd12 e i4 x4)]) (And.intro (po_lr (q := lr_r_Valid_4 e) (lp_r_Valid_4 e e.items.l 0 (List.drop_zero) (Nat.zero_le _) (by first | assumption | omega | (simp only [zd] at * <;> omega) | (simp only [zb, GS.some_l, List.length_set, List.length_append, List.length_cons, List.length_nil] at * <;> first | with_reducible assumption | omega) | (simp only [zb, GS.some_l, List.length_set, List.length_append, List.length_cons, List.length_nil, zd] at * <;> first | with_reducible assumption | omega) | (simp at * <;> omega))) h20) (And.intro h5 (And.intro h4 (And.intro h3 (And.intro h2 (And.intro (zt S_Item.D e.items) (And.intro h1 (And.intro (zt S_Item.D e.items) trivial)))))))) (by kernel_rfl)
            | x3 i4 x4 =>
              try dsimp only
              exact zu ((r_Valid_o1 e) ++ [.dec false, .dec false, .loop .ret (sd13 e i4 x4)]) (And.intro (po_lr (q := lr_r_Valid_4 e) (lp_r_Valid_4 e e.items.l 0 (List.drop_zero) (Nat.zero_le _) (by first | assumption | omega | (simp only [zd] at * <;> omega) | (simp only [zb, GS.some_l, List.length_set, List.length_append, List.length_cons, List.length_nil] at * <;> first | with_reducible assumption | omega) | (simp only [zb, GS.some_l, List.length_set, List.length_append, List.length_cons, List.length_nil, zd] at * <;> first | with_reducible assumption | omega) | (simp at * <;> omega))) h20) (And.intro h5 (And.intro h4 (And.intro h3 (And.intro h2 (And.intro (zt S_Item.D e.items) (And.intro h1 (And.intro (zt S_Item.D e.items) trivial)))))))) (by kernel_rfl)
            | x4 i4 x4 =>
              try dsimp only
              exact zu ((r_Valid_o1 e) ++ [.dec false, .dec false, .loop .ret (sd14 e i4 x4)]) (And.intro (po_lr (q := lr_r_Valid_4 e) (lp_r_Valid_4 e e.items.l 0 (List.drop_zero) (Nat.zero_le _) (by first | assumption | omega | (simp only [zd] at * <;> omega) | (simp only [zb, GS.some_l, List.length_set, List.length_append, List.length_cons, List.length_nil] at * <;> first | with_reducible assumption | omega) | (simp only [zb, GS.some_l, List.length_set, List.length_append, List.length_cons, List.length_nil, zd] at * <;> first | with_reducible assumption | omega) | (simp at * <;> omega))) h20) (And.intro h5 (And.intro h4 (And.intro h3 (And.intro h2 (And.intro (zt S_Item.D e.items) (And.intro h1 (And.intro (zt S_Item.D e.items) trivial)))))))) (by kernel_rfl)
            | x5 i4 x4 =>
              try dsimp only
              exact zu ((r_Valid_o1 e) ++ [.dec false, .dec false, .loop .ret (sd15 e i4 x4)]) (And.intro (po_lr (q := lr_r_Valid_4 e) (lp_r_Valid_4 e e.items.l 0 (List.drop_zero) (Nat.zero_le _) (by first | assumption | omega | (simp only [zd] at * <;> omega) | (simp only [zb, GS.some_l, List.length_set, List.length_append, List.length_cons, List.length_nil] at * <;> first | with_reducible assumption | omega) | (simp only [zb, GS.some_l, List.length_set, List.length_append, List.length_cons, List.length_nil, zd] at * <;> first | with_reducible assumption | omega) | (simp at * <;> omega))) h20) (And.intro h5 (And.intro h4 (And.intro h3 (And.intro h2 (And.intro (zt S_Item.D e.items) (And.intro h1 (And.intro (zt S_Item.D e.items) trivial)))))))) (by kernel_rfl)
            | x6 i4 x4 =>
              try dsimp only
              exact zu ((r_Valid_o1 e) ++ [.dec false, .dec false, .loop .ret (sd16 e i4 x4)]) (And.intro (po_lr (q := lr_r_Valid_4 e) (lp_r_Valid_4 e e.items.l 0 (List.drop_zero) (Nat.zero_le _) (by first | assumption | omega | (simp only [zd] at * <;> omega) | (simp only [zb, GS.some_l, List.length_set, List.length_append, List.length_cons, List.length_nil] at * <;> first | with_reducible assumption | omega) | (simp only [zb, GS.some_l, List.length_set, List.length_append, List.length_cons, List.length_nil, zd] at * <;> first | with_reducible assumption | omega) | (simp at * <;> omega))) h20) (And.intro h5 (And.intro h4 (And.intro h3 (And.intro h2 (And.intro (zt S_Item.D e.items) (And.intro h1 (And.intro (zt S_Item.D e.items) trivial)))))))) (by kernel_rfl)
            | x7 i4 x4 =>
              try dsimp only
              exact zu ((r_Valid_o1 e) ++ [.dec false, .dec false, .loop .ret (sd17 e i4 x4)]) (And.intro (po_lr (q := lr_r_Valid_4 e) (lp_r_Valid_4 e e.items.l 0 (List.drop_zero) (Nat.zero_le _) (by first | assumption | omega | (simp only [zd] at * <;> omega) | (simp only [zb, GS.some_l, List.length_set, List.length_append, List.length_cons, List.length_nil] at * <;> first | with_reducible assumption | omega) | (simp only [zb, GS.some_l, List.length_set, List.length_append, List.length_cons, List.length_nil, zd] at * <;> first | with_reducible assumption | omega) | (simp at * <;> omega))) h20) (And.intro h5 (And.intro h4 (And.intro h3 (And.intro h2 (And.intro (zt S_Item.D e.items) (And.intro h1 (And.intro (zt S_Item.D e.items) trivial)))))))) (by kernel_rfl)

theorem valid_len {e : S_Estate} (h : r_Valid e = true) : 1 ≤ e.items.l.length ∧ e.items.l.length ≤ 12 := by
  unfold r_Valid at h
  simp only [Bool.cond_decide] at h
  split at h
  · cases h
  split at h
  · cases h
  omega

inductive LR_l_fill_4 where
  | x0 (v4_0 : Int)
instance : Inhabited LR_l_fill_4 := ⟨.x0 default⟩
def l_fill_4 : List S_Item → Int → LR_l_fill_4
  | [], v4_0 => .x0 v4_0
  | x4 :: rest4, v4_0 =>
    l_fill_4 rest4 (w64 (v4_0 - x4.now.lo))
inductive LR_l_fill_9 where
  | x0 (va9_0 : List Int) (va9_1 : Int)
  | x1
instance : Inhabited LR_l_fill_9 := ⟨.x0 default default⟩
def l_fill_9a (v4_0 : Int) : List S_Item → (List Int) → Int → LR_l_fill_9
  | [], va9_0, va9_1 => .x0 va9_0 va9_1
  | x9 :: rest9, va9_0, va9_1 =>
    l_fill_9a v4_0 rest9 (va9_0 ++ [w64 (x9.now.lo + (imin (imax va9_1 0) (w64 (x9.now.hi - x9.now.lo))))]) (w64 (va9_1 - (imin (imax va9_1 0) (w64 (x9.now.hi - x9.now.lo)))))
def l_fill_9 (v4_0 : Int) : List S_Item → LR_l_fill_9
  | [] => .x1
  | x9 :: rest9 =>
    l_fill_9a v4_0 rest9 [w64 (x9.now.lo + (imin (imax v4_0 0) (w64 (x9.now.hi - x9.now.lo))))] (w64 (v4_0 - (imin (imax v4_0 0) (w64 (x9.now.hi - x9.now.lo)))))
def l_fill (items : GS S_Item) (sum : Int) : (GS Int) :=
  match l_fill_4 items.l sum with
  | .x0 v4_0 =>
    match l_fill_9 v4_0 items.l with
    | .x0 va9_0 va9_1 =>
      GS.some va9_0
    | .x1 =>
      GS.nil

theorem zb {items : GS S_Item} {sum : Int} : (l_fill items sum).l.length = items.l.length := by
  have key : ∀ (l : List S_Item) (v : List Int) (n : Int) (z : Int), ∃ a b, l_fill_9a z l v n = .x0 a b ∧ a.length = v.length + l.length := by
    intro l
    induction l with
    | nil => intro v n z; exact ⟨v, n, rfl, by simp⟩
    | cons x l ih => intro v n z; obtain ⟨a, b, h1, h2⟩ := ih _ _ z; exact ⟨a, b, h1, by rw [h2]; simp; omega⟩
  unfold l_fill
  split
  cases hl : items.l with
  | nil => rfl
  | cons x l =>
    simp only [l_fill_9]
    obtain ⟨a, b, h, h2⟩ := key l [w64 (x.now.lo + (imin (imax _ 0) (w64 (x.now.hi - x.now.lo))))] (w64 (_ - (imin (imax _ 0) (w64 (x.now.hi - x.now.lo))))) _
    rw [h]
    simp [GS.some, h2]
    omega
end Go.VS

/-
  Orders: what an estate's functions come to, in plain numbers. (A text of this claim's own; nothing of it is trusted.)
-/
namespace Go.VS
def sLo : List S_Item → Int
  | [] => 0
  | x :: l => x.now.lo + sLo l
def sHi : List S_Item → Int
  | [] => 0
  | x :: l => x.now.hi + sHi l
def OkItem (x : S_Item) : Prop := 0 ≤ x.now.lo ∧ x.now.lo ≤ x.now.hi ∧ x.now.hi ≤ 1073741824 ∧ 0 ≤ x.cost ∧ x.cost ≤ 10000 ∧ 0 ≤ x.error ∧ x.error ≤ 1048576
def OkSpans (l : List S_Item) : Prop := ∀ x ∈ l, 0 ≤ x.now.lo ∧ x.now.lo ≤ x.now.hi ∧ x.now.hi ≤ 1073741824
structure V (e : S_Estate) : Prop where
  n1 : 1 ≤ e.items.l.length
  n2 : e.items.l.length ≤ 12
  w0 : 0 ≤ e.whole.lo
  w1 : e.whole.lo ≤ e.whole.hi
  w2 : e.whole.hi ≤ 17179869184
  it : ∀ x ∈ e.items.l, OkItem x
  lo : sLo e.items.l ≤ e.whole.hi
  hi : e.whole.lo ≤ sHi e.items.l
theorem okSpans_of {l : List S_Item} (h : ∀ x ∈ l, OkItem x) : OkSpans l := fun x hx => ⟨(h x hx).1, (h x hx).2.1, (h x hx).2.2.1⟩
theorem V.sp {e : S_Estate} (h : V e) : OkSpans e.items.l := okSpans_of h.it
theorem sums_bd {l : List S_Item} (h : OkSpans l) : 0 ≤ sLo l ∧ sLo l ≤ sHi l ∧ sHi l ≤ 1073741824 * (l.length : Int) := by
  induction l with
  | nil => simp [sLo, sHi]
  | cons x l ih =>
    have h1 := ih fun y hy => h y (List.mem_cons_of_mem _ hy)
    have h2 := h x List.mem_cons_self
    simp only [sLo, sHi, List.length_cons]
    omega
theorem all2_eq {l : List S_Item} (h : OkSpans l) : ∀ (a b : Int), 0 ≤ a → 0 ≤ b → a + 1073741824 * (l.length : Int) ≤ 4611686018427387904 → b + 1073741824 * (l.length : Int) ≤ 4611686018427387904 → orders_all_2 l a b = .x0 (a + sLo l) (b + sHi l) := by
  induction l with
  | nil => intro a b _ _ _ _; simp [orders_all_2, sLo, sHi]
  | cons x l ih =>
    intro a b h1 h2 h3 h4
    have hx := h x List.mem_cons_self
    simp only [List.length_cons] at h3 h4
    unfold orders_all_2
    rw [w64_eq (by omega) (by omega), w64_eq (by omega) (by omega), ih (fun y hy => h y (List.mem_cons_of_mem _ hy)) _ _ (by omega) (by omega) (by omega) (by omega)]
    simp only [sLo, sHi]
    congr 1 <;> omega
theorem rall2_eq (l : List S_Item) : ∀ (a b : Int), ∃ c d, r_All_3 l a b = .x0 c d ∧ orders_all_2 l a b = .x0 c d := by
  induction l with
  | nil => intro a b; exact ⟨a, b, rfl, rfl⟩
  | cons x l ih => intro a b; exact ih _ _
theorem rall_eq (e : S_Estate) : r_All e = orders_all e := by
  obtain ⟨c, d, h1, h2⟩ := rall2_eq e.items.l 0 0
  unfold r_All orders_all
  rw [h1, h2]
theorem all_eq {e : S_Estate} (h : OkSpans e.items.l) (hn : e.items.l.length ≤ 12) : orders_all e = ⟨sLo e.items.l, sHi e.items.l⟩ := by
  unfold orders_all
  rw [all2_eq h 0 0 (by omega) (by omega) (by omega) (by omega)]
  simp
theorem span_iff {x : S_Span} {m : Int} : orders_span x m = true ↔ 0 ≤ x.lo ∧ x.lo ≤ x.hi ∧ x.hi ≤ m := by
  unfold orders_span
  simp only [Bool.cond_decide]
  split
  · split
    · split
      · simp; omega
      · simp; omega
    · simp; omega
  · simp; omega
theorem within_iff {n lo hi : Int} : zC n lo hi = true ↔ lo ≤ n ∧ n ≤ hi := by simp [within_eq]
theorem common_eq (x y : S_Span) : orders_common x y = (⟨max x.lo y.lo, min x.hi y.hi⟩, decide (max x.lo y.lo ≤ min x.hi y.hi)) := by
  unfold orders_common
  rw [imax_eq, imin_eq]
  cases decide (max x.lo y.lo ≤ min x.hi y.hi) <;> rfl
theorem check4_iff {l : List S_Item} {i : Nat} : orders_Check_4 l i = .x0 ↔ ∀ x ∈ l, OkItem x := by
  induction l generalizing i with
  | nil => simp [orders_Check_4]
  | cons x l ih =>
    unfold orders_Check_4
    simp only [List.forall_mem_cons]
    cases h1 : orders_span x.now 1073741824 with
    | false =>
      simp only [cond_false]
      constructor
      · intro h; cases h
      · rintro ⟨h, _⟩; rw [span_iff.2 ⟨h.1, h.2.1, h.2.2.1⟩] at h1; cases h1
    | true =>
      cases h2 : zC x.cost 0 10000 with
      | false =>
        simp only [cond_false, cond_true]
        constructor
        · intro h; cases h
        · rintro ⟨h, _⟩; rw [within_iff.2 ⟨h.2.2.2.1, h.2.2.2.2.1⟩] at h2; cases h2
      | true =>
        cases h3 : zC x.error 0 1048576 with
        | false =>
          simp only [cond_false, cond_true]
          constructor
          · intro h; cases h
          · rintro ⟨h, _⟩; rw [within_iff.2 ⟨h.2.2.2.2.2.1, h.2.2.2.2.2.2⟩] at h3; cases h3
        | true =>
          simp only [cond_true, ih]
          have a1 := span_iff.1 h1
          have a2 := within_iff.1 h2
          have a3 := within_iff.1 h3
          exact ⟨fun h => ⟨⟨a1.1, a1.2.1, a1.2.2, a2.1, a2.2, a3.1, a3.2⟩, h⟩, fun h => h.2⟩
theorem check_cases (e : S_Estate) : zJ e = 0 ∨ zJ e = 80 := by
  unfold zJ
  cases zC ((e.items.l.length : Nat) : Int) 1 12 <;> cases orders_span e.whole 17179869184 <;> simp only [cond_true, cond_false] <;> try (exact .inr trivial)
  split <;> first | (exact .inr rfl) | skip
  cases (orders_common (orders_all e) e.whole).2 <;> simp
theorem check_iff {e : S_Estate} : zJ e = 0 ↔ V e := by
  unfold zJ
  cases h1 : zC ((e.items.l.length : Nat) : Int) 1 12 with
  | false =>
    simp only [cond_false]
    refine ⟨fun h => by omega, fun h => ?_⟩
    rw [within_iff.2 ⟨by have := h.n1; omega, by have := h.n2; omega⟩] at h1; cases h1
  | true =>
    have a1 := within_iff.1 h1
    cases h2 : orders_span e.whole 17179869184 with
    | false =>
      simp only [cond_false, cond_true]
      refine ⟨fun h => by omega, fun h => ?_⟩
      rw [span_iff.2 ⟨h.w0, h.w1, h.w2⟩] at h2; cases h2
    | true =>
      have a2 := span_iff.1 h2
      simp only [cond_true]
      by_cases h3 : orders_Check_4 e.items.l 0 = .x0
      · have a3 := check4_iff.1 h3
        rw [h3, common_eq, all_eq (okSpans_of a3) (by omega)]
        simp only []
        have hb := sums_bd (okSpans_of a3)
        by_cases h4 : max (sLo e.items.l) e.whole.lo ≤ min (sHi e.items.l) e.whole.hi
        · simp only [h4, decide_true, cond_true, true_iff]
          exact ⟨by omega, by omega, a2.1, a2.2.1, a2.2.2, a3, by omega, by omega⟩
        · simp only [h4, decide_false, cond_false]
          refine ⟨fun h => by omega, fun h => absurd ?_ h4⟩
          have := h.lo; have := h.hi; have := h.w1
          omega
      · constructor
        · intro h
          exfalso
          split at h
          · rename_i h5; exact h3 h5
          all_goals omega
        · intro h; exact absurd (check4_iff.2 h.it) h3
theorem valid4_iff {l : List S_Item} {i : Nat} : r_Valid_4 l i = .x0 ↔ ∀ x ∈ l, OkItem x := by
  induction l generalizing i with
  | nil => simp [r_Valid_4]
  | cons x l ih =>
    unfold r_Valid_4
    simp only [List.forall_mem_cons, Bool.cond_decide, OkItem]
    repeat' split
    all_goals first
      | (constructor
         · intro h; cases h
         · intro h; exfalso; omega)
      | (rw [ih]
         constructor
         · intro h; exact ⟨by omega, h⟩
         · intro h; exact h.2)
theorem valid_iff {e : S_Estate} : r_Valid e = true ↔ V e := by
  unfold r_Valid
  simp only [Bool.cond_decide]
  constructor
  · intro h
    split at h
    · cases h
    split at h
    · cases h
    split at h
    · cases h
    split at h
    · cases h
    split at h
    · cases h
    split at h
    · rename_i h1 h2 h3 h4 h5 h6
      have a3 := valid4_iff.1 h6
      rw [rall_eq, all_eq (okSpans_of a3) (by omega)] at h
      simp only [] at h
      split at h
      · split at h
        · exact ⟨by omega, by omega, by omega, by omega, by omega, a3, by omega, by omega⟩
        · cases h
      · cases h
    all_goals cases h
  · intro h
    have := h.n1; have := h.n2; have := h.w0; have := h.w1; have := h.w2
    rw [if_neg (by omega), if_neg (by omega), if_neg (by omega), if_neg (by omega), if_neg (by omega), valid4_iff.2 h.it]
    simp only [rall_eq, all_eq h.sp h.n2]
    rw [if_pos h.lo, if_pos h.hi]
theorem check_valid (e : S_Estate) : zJ e = if r_Valid e then 0 else 80 := by
  rcases check_cases e with h | h
  · rw [if_pos (valid_iff.2 (check_iff.1 h)), h]
  · rw [if_neg (fun hv => by have := check_iff.2 (valid_iff.1 hv); omega), h]
/-! ### allowed areas -/
def tot : List Int → Int
  | [] => 0
  | x :: l => x + tot l
/-- Areas within the items' spans. -/
def In : List S_Item → List Int → Prop
  | [], [] => True
  | x :: l, b :: a => (x.now.lo ≤ b ∧ b ≤ x.now.hi) ∧ In l a
  | _, _ => False
theorem In.len : ∀ {l : List S_Item} {a : List Int}, In l a → a.length = l.length
  | [], [], _ => rfl
  | [], _ :: _, h => h.elim
  | _ :: _, [], h => h.elim
  | x :: l, b :: a, h => by simp only [List.length_cons, h.2.len]
theorem In.bd : ∀ {l : List S_Item} {a : List Int}, In l a → sLo l ≤ tot a ∧ tot a ≤ sHi l
  | [], [], _ => ⟨Int.le_refl _, Int.le_refl _⟩
  | [], _ :: _, h => h.elim
  | _ :: _, [], h => h.elim
  | x :: l, b :: a, h => by have := h.2.bd; have := h.1; simp only [sLo, sHi, tot]; omega
theorem at_mem {α : Type} [Inhabited α] {s : GS α} {i : Int} (h0 : 0 ≤ i) (h1 : i < (s.l.length : Int)) : s.at i ∈ s.l := by
  have hlt : i.toNat < s.l.length := by omega
  rw [GS.at, List.getD_eq_getElem?_getD, List.getElem?_eq_getElem hlt]
  exact List.getElem_mem hlt
end Go.VS

namespace Go.VS
open Go Go.Proofs
set_option maxHeartbeats 0
set_option linter.unusedSimpArgs false
set_option linter.unusedVariables false
def cmp_isNaN (a0 : Int) : Bool :=
  bif (a0 != a0) then
    true
  else
    false

theorem T_cmp_isNaN (a0 : Int) : (lim cfg).pure 111 [I a0] = some (B (cmp_isNaN a0)) := by
  unfold cmp_isNaN
  cases h1 : (a0 != a0) with
  | true =>
    have g1 := bne_true h1
    exact zu [.dec true] (And.intro h1 trivial) (by kernel_rfl)
  | false =>
    have g1 := bne_false h1
    exact zu [.dec false] (And.intro h1 trivial) (by kernel_rfl)

def cmp_Less (a0 : Int) (a1 : Int) : Bool :=
  bif (cmp_isNaN a0) then
    bif (cmp_isNaN a1) then
      bif decide (a0 < a1) then
        true
      else
        false
    else
      true
  else
    bif decide (a0 < a1) then
      true
    else
      false

def bl12 (n : Int) : Int := [0,1,2,2,3,3,3,3,4,4,4,4,4].getD n.toNat 0
inductive LR_isort4_4 where
  | x0 (v4_0 : Int) (v4_1 : List Int)
  | x1 (v4_0 : Int) (v4_1 : List Int)
  | out
instance : Inhabited LR_isort4_4 := ⟨.out⟩
def isort4_4 : Nat → Int → (List Int) → LR_isort4_4
  | 0, _, _ => .out
  | rest4 + 1, v4_0, v4_1 =>
    bif decide (v4_0 > 0) then
      bif (cmp_Less (v4_1.getD ((v4_0).toNat) default) (v4_1.getD ((w64 (v4_0 - 1)).toNat) default)) then
        isort4_4 rest4 (w64 (v4_0 - 1)) ((v4_1.set ((v4_0).toNat) (v4_1.getD ((w64 (v4_0 - 1)).toNat) default)).set ((w64 (v4_0 - 1)).toNat) (v4_1.getD ((v4_0).toNat) default))
      else
        .x0 v4_0 v4_1
    else
      .x1 v4_0 v4_1
def iv_isort4_4 (l : List Int) (q4_0 : Int) : LR_isort4_4 → Prop
  | .x0 v4_0 v4_1 => (0 ≤ v4_0 ∧ v4_0 < ((l.length : Nat) : Int) ∧ l.length ≤ 12) ∧ (v4_1.length = l.length)
  | .x1 v4_0 v4_1 => (0 ≤ v4_0 ∧ v4_0 < ((l.length : Nat) : Int) ∧ l.length ≤ 12) ∧ (v4_1.length = l.length)
  | .out => True
theorem ivt_isort4_4 (l : List Int) (q4_0 : Int) : ∀ (rest4 : Nat) (v4_0 : Int) (v4_1 : List Int) (hf4 : isort4_4 rest4 v4_0 v4_1 ≠ .out) (hj : 0 ≤ v4_0 ∧ v4_0 < ((l.length : Nat) : Int) ∧ l.length ≤ 12) (hl4_v4_1 : v4_1.length = l.length), iv_isort4_4 l q4_0 (isort4_4 rest4 v4_0 v4_1) := by
  intro rest4
  induction rest4 with
  | zero =>
    intro v4_0 v4_1 hf4 hj hl4_v4_1
    exact absurd rfl hf4
  | succ rest4 ih =>
    intro v4_0 v4_1 hf4 hj hl4_v4_1
    unfold isort4_4 at hf4 ⊢
    revert hf4
    cases h8 : decide (v4_0 > 0) with
    | true =>
      have g8 := of_decide_eq_true h8
      cases h9 : (cmp_Less (v4_1.getD ((v4_0).toNat) default) (v4_1.getD ((w64 (v4_0 - 1)).toNat) default)) with
      | true =>
        intro hf4
        exact ih (w64 (v4_0 - 1)) ((v4_1.set ((v4_0).toNat) (v4_1.getD ((w64 (v4_0 - 1)).toNat) default)).set ((w64 (v4_0 - 1)).toNat) (v4_1.getD ((v4_0).toNat) default)) hf4 (by first | assumption | omega | (simp only [zd] at * <;> omega) | (simp only [zb, GS.some_l, List.length_set, List.length_append, List.length_cons, List.length_nil] at * <;> first | with_reducible assumption | omega) | (simp only [zb, GS.some_l, List.length_set, List.length_append, List.length_cons, List.length_nil, zd] at * <;> first | with_reducible assumption | omega) | (simp at * <;> omega)) (by first | assumption | omega | (simp only [zd] at * <;> omega) | (simp only [zb, GS.some_l, List.length_set, List.length_append, List.length_cons, List.length_nil] at * <;> first | with_reducible assumption | omega) | (simp only [zb, GS.some_l, List.length_set, List.length_append, List.length_cons, List.length_nil, zd] at * <;> first | with_reducible assumption | omega) | (simp at * <;> omega))
      | false =>
        intro hf4
        exact ⟨hj, hl4_v4_1⟩
    | false =>
      have g8 := of_decide_eq_false h8
      intro hf4
      exact ⟨hj, hl4_v4_1⟩

theorem isort4_ne : ∀ (n : Nat) (j : Int) (v : List Int), 0 ≤ j → j < n → j ≤ 12 → isort4_4 n j v ≠ .out
  | 0, j, v, h0, h1, _ => by omega
  | n + 1, j, v, h0, h1, h5 => by
    unfold isort4_4
    cases h2 : decide (j > 0) with
    | false => simp
    | true =>
      have := of_decide_eq_true h2
      cases h3 : cmp_Less (v.getD j.toNat default) (v.getD (w64 (j - 1)).toNat default) with
      | false => simp
      | true =>
        simp only [cond_true]
        exact isort4_ne n _ _ (by rw [w64_eq (by omega) (by omega)]; omega) (by rw [w64_eq (by omega) (by omega)]; omega) (by rw [w64_eq (by omega) (by omega)]; omega)

inductive LR_isort4_1 where
  | x0 (i1 : Nat) (v1_0 : List Int)
instance : Inhabited LR_isort4_1 := ⟨.x0 default default⟩
def isort4_1 : Nat → Nat → (List Int) → LR_isort4_1
  | 0, i1, v1_0 => .x0 i1 v1_0
  | rest1 + 1, i1, v1_0 =>
    match isort4_4 (i1 + 1) ((i1 : Nat) : Int) v1_0 with
    | .x0 v4_0 v4_1 =>
      isort4_1 rest1 (i1 + 1) v4_1
    | .x1 v4_0 v4_1 =>
      isort4_1 rest1 (i1 + 1) v4_1
    | .out =>
      default
def iv_isort4_1 (l : List Int) : LR_isort4_1 → Prop
  | .x0 i1 v1_0 => (v1_0.length = l.length)
theorem ivt_isort4_1 (l : List Int) : ∀ (rest1 : Nat) (i1 : Nat) (v1_0 : List Int) (hk1 : (((l.length : Nat) : Int) - ((i1 : Nat) : Int)).toNat = rest1) (hN1 : ((l.length : Nat) : Int) ≤ 9223372036854775807) (hn : l.length ≤ 12) (hl1_v1_0 : v1_0.length = l.length), iv_isort4_1 l (isort4_1 rest1 i1 v1_0) := by
  intro rest1
  induction rest1 with
  | zero =>
    intro i1 v1_0 hk1 hN1 hn hl1_v1_0
    unfold isort4_1
    exact hl1_v1_0
  | succ rest1 ih =>
    intro i1 v1_0 hk1 hN1 hn hl1_v1_0
    have hlt1 := of_decide_eq_true (ct_at hk1)
    unfold isort4_1
    cases h10 : isort4_4 (i1 + 1) ((i1 : Nat) : Int) v1_0 with
    | x0 v4_0 v4_1 =>
      try dsimp only
      have hv_h10 := ivt_isort4_4 l ((i1 : Nat) : Int) (i1 + 1) ((i1 : Nat) : Int) v1_0 (isort4_ne (i1 + 1) _ _ (by omega) (by omega) (by omega)) (by first | assumption | omega | (simp only [zd] at * <;> omega) | (simp only [zb, GS.some_l, List.length_set, List.length_append, List.length_cons, List.length_nil] at * <;> first | with_reducible assumption | omega) | (simp only [zb, GS.some_l, List.length_set, List.length_append, List.length_cons, List.length_nil, zd] at * <;> first | with_reducible assumption | omega) | (simp at * <;> omega)) (by first | assumption | omega | (simp only [zd] at * <;> omega) | (simp only [zb, GS.some_l, List.length_set, List.length_append, List.length_cons, List.length_nil] at * <;> first | with_reducible assumption | omega) | (simp only [zb, GS.some_l, List.length_set, List.length_append, List.length_cons, List.length_nil, zd] at * <;> first | with_reducible assumption | omega) | (simp at * <;> omega))
      rw [h10] at hv_h10
      obtain ⟨hv_h10_0, hv_h10_1⟩ := hv_h10
      try dsimp only [iv_isort4_4] at hv_h10_0
      try dsimp only [iv_isort4_4] at hv_h10_1
      exact ih (i1 + 1) v4_1 (by omega) hN1 (by first | assumption | omega | (simp only [zd] at * <;> omega) | (simp only [zb, GS.some_l, List.length_set, List.length_append, List.length_cons, List.length_nil] at * <;> first | with_reducible assumption | omega) | (simp only [zb, GS.some_l, List.length_set, List.length_append, List.length_cons, List.length_nil, zd] at * <;> first | with_reducible assumption | omega) | (simp at * <;> omega)) (by first | assumption | omega | (simp only [zd] at * <;> omega) | (simp only [zb, GS.some_l, List.length_set, List.length_append, List.length_cons, List.length_nil] at * <;> first | with_reducible assumption | omega) | (simp only [zb, GS.some_l, List.length_set, List.length_append, List.length_cons, List.length_nil, zd] at * <;> first | with_reducible assumption | omega) | (simp at * <;> omega))
    | x1 v4_0 v4_1 =>
      try dsimp only
      have hv_h10 := ivt_isort4_4 l ((i1 : Nat) : Int) (i1 + 1) ((i1 : Nat) : Int) v1_0 (isort4_ne (i1 + 1) _ _ (by omega) (by omega) (by omega)) (by first | assumption | omega | (simp only [zd] at * <;> omega) | (simp only [zb, GS.some_l, List.length_set, List.length_append, List.length_cons, List.length_nil] at * <;> first | with_reducible assumption | omega) | (simp only [zb, GS.some_l, List.length_set, List.length_append, List.length_cons, List.length_nil, zd] at * <;> first | with_reducible assumption | omega) | (simp at * <;> omega)) (by first | assumption | omega | (simp only [zd] at * <;> omega) | (simp only [zb, GS.some_l, List.length_set, List.length_append, List.length_cons, List.length_nil] at * <;> first | with_reducible assumption | omega) | (simp only [zb, GS.some_l, List.length_set, List.length_append, List.length_cons, List.length_nil, zd] at * <;> first | with_reducible assumption | omega) | (simp at * <;> omega))
      rw [h10] at hv_h10
      obtain ⟨hv_h10_0, hv_h10_1⟩ := hv_h10
      try dsimp only [iv_isort4_4] at hv_h10_0
      try dsimp only [iv_isort4_4] at hv_h10_1
      exact ih (i1 + 1) v4_1 (by omega) hN1 (by first | assumption | omega | (simp only [zd] at * <;> omega) | (simp only [zb, GS.some_l, List.length_set, List.length_append, List.length_cons, List.length_nil] at * <;> first | with_reducible assumption | omega) | (simp only [zb, GS.some_l, List.length_set, List.length_append, List.length_cons, List.length_nil, zd] at * <;> first | with_reducible assumption | omega) | (simp at * <;> omega)) (by first | assumption | omega | (simp only [zd] at * <;> omega) | (simp only [zb, GS.some_l, List.length_set, List.length_append, List.length_cons, List.length_nil] at * <;> first | with_reducible assumption | omega) | (simp only [zb, GS.some_l, List.length_set, List.length_append, List.length_cons, List.length_nil, zd] at * <;> first | with_reducible assumption | omega) | (simp at * <;> omega))
    | out =>
      exact absurd h10 (isort4_ne (i1 + 1) _ _ (by omega) (by omega) (by omega))

def isort4 (l : List Int) : List Int :=
  match isort4_1 (((l.length : Nat) : Int) - 1).toNat 1 l with
  | .x0 i1 v1_0 =>
    v1_0

def pdq4 (l : List Int) (q : Int) : List Int :=
  (isort4 l)

def sort4 (l : List Int) : List Int :=
  (pdq4 l (bl12 ((l.length : Nat) : Int)))

end Go.VS

namespace Go.VS
open Go Go.Proofs
set_option maxHeartbeats 0
set_option linter.unusedSimpArgs false
set_option linter.unusedVariables false
structure S_window where
  at_ : S_Span
  room_ : Int
  whole_ : S_Span
instance : Inhabited S_window := ⟨⟨default, 0, default⟩⟩
def S_window.D (x : S_window) : VS.D := .agg [I x.at_.lo, I x.at_.hi, I x.room_, I x.whole_.lo, I x.whole_.hi]
inductive LR_orders_total_3 where
  | x0 (v3_0 : Int)
instance : Inhabited LR_orders_total_3 := ⟨.x0 default⟩
def orders_total_3 : List Int → Int → LR_orders_total_3
  | [], v3_0 => .x0 v3_0
  | x3 :: rest3, v3_0 =>
    orders_total_3 rest3 (w64 (v3_0 + x3))
def orders_total (l : GS Int) : Int :=
  match orders_total_3 l.l 0 with
  | .x0 v3_0 =>
    v3_0

def orders_windowOf (e : S_Estate) (g : Int) : S_window :=
  (⟨(⟨(orders_all e).lo, w64 (((orders_all e).hi) - g)⟩ : S_Span), g, e.whole⟩ : S_window)

def orders_window_ends (w : S_window) : Int × Int :=
  (imax 0 (w64 (w.whole_.lo - w.at_.hi)), imin w.room_ (w64 (w.whole_.hi - w.at_.lo)))

def orders_window_seen (w : S_window) (s : Int) : S_Span :=
  bif ((orders_common (⟨w64 (w.at_.lo + s), w64 (w.at_.hi + s)⟩ : S_Span) w.whole_).2) then
    ((orders_common (⟨w64 (w.at_.lo + s), w64 (w.at_.hi + s)⟩ : S_Span) w.whole_).1)
  else
    ((orders_common (⟨w64 (w.at_.lo + s), w64 (w.at_.hi + s)⟩ : S_Span) w.whole_).1)

theorem isort4_len (l : List Int) (h : l.length ≤ 12) : (isort4 l).length = l.length := by
  unfold isort4
  cases h2 : isort4_1 (((l.length : Nat) : Int) - 1).toNat 1 l with
  | x0 i v =>
    by_cases h1 : 1 ≤ l.length
    · have := ivt_isort4_1 l (((l.length : Nat) : Int) - 1).toNat 1 l (by omega) (by omega) h rfl
      rw [h2] at this
      exact this
    · have : l = [] := List.eq_nil_of_length_eq_zero (by omega)
      subst this
      simp [isort4_1] at h2
      rw [← h2.2]
theorem z8 (a b c d : Int) : (sort4 [a, b, c, d]).length = 4 := isort4_len [a, b, c, d] (by simp)

inductive LR_orders_right_5 where
  | x0
  | x1 (i5 : Nat) (x5 : Int)
  | x2 (i5 : Nat) (x5 : Int)
instance : Inhabited LR_orders_right_5 := ⟨.x0⟩
def orders_right_5 (e : S_Estate) (items : GS Int) : List Int → Nat → LR_orders_right_5
  | [], i5 => .x0
  | x5 :: rest5, i5 =>
    bif (zC x5 0 (w64 (((e.items.l.length : Nat) : Int) - 1))) then
      bif decide (((i5 : Nat) : Int) > 0) then
        bif decide ((GS.at items (w64 (((i5 : Nat) : Int) - 1))) ≥ x5) then
          .x1 i5 x5
        else
          orders_right_5 e items rest5 (i5 + 1)
      else
        orders_right_5 e items rest5 (i5 + 1)
    else
      .x2 i5 x5
def orders_right (e : S_Estate) (items : GS Int) : Int :=
  bif ((zJ e) != 0) then
    (zJ e)
  else
    match orders_right_5 e items items.l 0 with
    | .x0 =>
      0
    | .x1 i5 x5 =>
      1
    | .x2 i5 x5 =>
      1

/-- Numbers that increase, above p and below n. -/
def inc (p n : Int) : List Int → Prop
  | [] => True
  | x :: l => p < x ∧ 0 ≤ x ∧ x < n ∧ inc x n l
end Go.VS

namespace Go.VS
open Go Go.Proofs
set_option maxHeartbeats 0
set_option linter.unusedSimpArgs false
set_option linter.unusedVariables false
noncomputable def lp66_3 : Code := subC [1, 1, 0, 1, 0, 0] (bodyC Try.f66)

def sd77 (e : S_Estate) (items : GS Int) (i3 : Nat) (x3 : Int) (va3_0 : List Int) : St := ⟨25, [(10, I ((i3 + 1 : Nat) : Int)), (23, I ((i3 + 1 : Nat) : Int)), (5, .lsl 3 0 ((va3_0 ++ [(zn (GS.at e.items x3))]).length) 1 none), (22, .lsl 3 0 ((va3_0 ++ [(zn (GS.at e.items x3))]).length) 1 none), (21, .lsl 2 0 1 1 (some 1)), (20, I (zn (GS.at e.items x3))), (19, .agg [I ((GS.at e.items x3).now.lo), I ((GS.at e.items x3).now.hi), I ((GS.at e.items x3).cost), I ((GS.at e.items x3).error)]), (18, .ptr (.agg [I ((GS.at e.items x3).now.lo), I ((GS.at e.items x3).now.hi), I ((GS.at e.items x3).cost), I ((GS.at e.items x3).error)])), (17, I x3), (16, .sl e.items.nl (e.items.l.map S_Item.D) (zsl e.items.nl 4) none), (15, .lref 0 0 3 0), (14, .lsl 1 0 va3_0.length 1 none), (7, I x3), (13, I x3), (12, .ptr (I x3)), (11, B true), (2, .lref 0 0 3 0), (5, .lsl 1 0 va3_0.length 1 none), (8, .sl items.nl (items.l.map I) (zsl items.nl 1) none), (9, I ((items.l.length : Nat) : Int)), (10, I ((i3 : Nat) : Int))], [(0, ⟨[.agg [.sl e.items.nl (e.items.l.map S_Item.D) (zsl e.items.nl 4) none, I e.whole.lo, I e.whole.hi]], 3, false⟩), (2, ⟨[I (zn (GS.at e.items x3))], 1, false⟩), (3, ⟨(va3_0 ++ [(zn (GS.at e.items x3))]).map I, 1, false⟩)], 4, 0⟩

inductive LR_orders_gains_3 where
  | x0 (va3_0 : List Int)
  | x1
instance : Inhabited LR_orders_gains_3 := ⟨.x0 default⟩
def orders_gains_3a (e : S_Estate) : List Int → (List Int) → LR_orders_gains_3
  | [], va3_0 => .x0 va3_0
  | x3 :: rest3, va3_0 =>
    orders_gains_3a e rest3 (va3_0 ++ [(zn (GS.at e.items x3))])
def orders_gains_3 (e : S_Estate) : List Int → LR_orders_gains_3
  | [] => .x1
  | x3 :: rest3 =>
    orders_gains_3a e rest3 [(zn (GS.at e.items x3))]
def lr_orders_gains_3 (e : S_Estate) (items : GS Int) : LR_orders_gains_3 → Exit × St
  | .x0 va3_0 => ((.exit 0), ⟨25, [(11, B false), (2, .lref 0 0 3 0), (5, .lsl 1 0 va3_0.length 1 none), (8, .sl items.nl (items.l.map I) (zsl items.nl 1) none), (9, I ((items.l.length : Nat) : Int)), (10, I ((items.l.length : Nat) : Int))], [(0, ⟨[.agg [.sl e.items.nl (e.items.l.map S_Item.D) (zsl e.items.nl 4) none, I e.whole.lo, I e.whole.hi]], 3, false⟩), (1, ⟨va3_0.map I, 1, false⟩)], 2, 0⟩)
  | .x1 => ((.exit 0), ⟨25, [(11, B false), (2, .lref 0 0 3 0), (5, .sl true [] 0 none), (8, .sl items.nl (items.l.map I) (zsl items.nl 1) none), (9, I ((items.l.length : Nat) : Int)), (10, I ((items.l.length : Nat) : Int))], [(0, ⟨[.agg [.sl e.items.nl (e.items.l.map S_Item.D) (zsl e.items.nl 4) none, I e.whole.lo, I e.whole.hi]], 3, false⟩)], 1, 0⟩)
def iv_orders_gains_3 (e : S_Estate) (items : GS Int) : LR_orders_gains_3 → Prop
  | .x0 va3_0 => (va3_0.length ≤ items.l.length)
  | .x1 => True
theorem lp_orders_gains_3a (e : S_Estate) (items : GS Int) : ∀ (rest3 : List Int) (i3 : Nat) (va3_0 : List Int) (hd3 : items.l.drop i3 = rest3) (hi3 : i3 ≤ items.l.length) (hall : ∀ i ∈ items.l, 0 ≤ i ∧ i < ((e.items.l.length : Nat) : Int)) (hg3_va3_0 : va3_0.length ≤ i3) (hL3 : items.l.length ≤ 1099511627776), (lim cfg).loop 66 lp66_3 ⟨25, [(2, .lref 0 0 3 0), (5, .lsl 1 0 va3_0.length 1 none), (8, .sl items.nl (items.l.map I) (zsl items.nl 1) none), (9, I ((items.l.length : Nat) : Int)), (10, I ((i3 : Nat) : Int))], [(0, ⟨[.agg [.sl e.items.nl (e.items.l.map S_Item.D) (zsl e.items.nl 4) none, I e.whole.lo, I e.whole.hi]], 3, false⟩), (1, ⟨va3_0.map I, 1, false⟩)], 2, 0⟩ = some (lr_orders_gains_3 e items (orders_gains_3a e rest3 va3_0)) := by
  intro rest3
  induction rest3 with
  | nil =>
    intro i3 va3_0 hd3 hi3 hall hg3_va3_0 hL3
    unfold orders_gains_3a
    obtain rfl : i3 = items.l.length := nil_eq hd3 hi3
    exact zF [.dec false] (And.intro (lt_no hd3) trivial) (by kernel_rfl)
  | cons x3 rest3 ih =>
    intro i3 va3_0 hd3 hi3 hall hg3_va3_0 hL3
    have hlt3 := zw hd3
    have hbx := hall x3 (mem_drop hd3)
    unfold orders_gains_3a
    exact po_turn' (ks := [2, 5, 8, 9, 10]) (st' := (sd77 e items i3 x3 va3_0)) [.dec true, .el (I x3), .el (.agg [I ((GS.at e.items x3).now.lo), I ((GS.at e.items x3).now.hi), I ((GS.at e.items x3).cost), I ((GS.at e.items x3).error)]), .pure (I (zn (GS.at e.items x3))), .op (some 22) ⟨.lsl 3 0 ((va3_0 ++ [(zn (GS.at e.items x3))]).length) 1 none, [(1, none), (3, some ⟨(va3_0 ++ [(zn (GS.at e.items x3))]).map I, 1, false⟩)], [1, 2], 4⟩, .rw 23 (I ((i3 + 1 : Nat) : Int))] (And.intro (inc_rw (i := i3) (by have := zw hd3; omega)) (And.intro (app_row (f := I) (te := ty3) (gO := zx [(0, ⟨[.agg [.sl e.items.nl (e.items.l.map S_Item.D) (zsl e.items.nl 4) none, I e.whole.lo, I e.whole.hi]], 3, false⟩), (1, ⟨va3_0.map I, 1, false⟩), (2, ⟨[I (zn (GS.at e.items x3))], 1, false⟩)]) (nxt := 3) (o := 1) (o2 := 2) (fz := false) zK va3_0 (zn (GS.at e.items x3)) (by kernel_rfl) (by kernel_rfl) rfl (by kernel_rfl) (by decide) ⟨by simp only [ty3, big] <;> (first | assumption | omega | (simp only [zd] at * <;> omega) | (simp only [zb, z8, za, GS.some_l, List.length_set, List.length_append, List.length_cons, List.length_nil] at * <;> first | with_reducible assumption | omega) | (simp only [zb, z8, za, GS.some_l, List.length_set, List.length_append, List.length_cons, List.length_nil, zd] at * <;> first | with_reducible assumption | omega) | (simp at * <;> omega)), by simp only [big] <;> (first | assumption | omega | (simp only [zd] at * <;> omega) | (simp only [zb, z8, za, GS.some_l, List.length_set, List.length_append, List.length_cons, List.length_nil] at * <;> first | with_reducible assumption | omega) | (simp only [zb, z8, za, GS.some_l, List.length_set, List.length_append, List.length_cons, List.length_nil, zd] at * <;> first | with_reducible assumption | omega) | (simp at * <;> omega))⟩) (And.intro (T_orders_gain (GS.at e.items x3)) (And.intro (el_in (s := e.items) (f := S_Item.D) (k := 4) (i := x3) (by first | assumption | omega | (simp only [zd] at * <;> omega) | (simp only [zb, z8, za, GS.some_l, List.length_set, List.length_append, List.length_cons, List.length_nil] at * <;> first | with_reducible assumption | omega) | (simp only [zb, z8, za, GS.some_l, List.length_set, List.length_append, List.length_cons, List.length_nil, zd] at * <;> first | with_reducible assumption | omega) | (simp at * <;> omega)) (by first | assumption | omega | (simp only [zd] at * <;> omega) | (simp only [zb, z8, za, GS.some_l, List.length_set, List.length_append, List.length_cons, List.length_nil] at * <;> first | with_reducible assumption | omega) | (simp only [zb, z8, za, GS.some_l, List.length_set, List.length_append, List.length_cons, List.length_nil, zd] at * <;> first | with_reducible assumption | omega) | (simp at * <;> omega))) (And.intro (el_at (s := items) (f := I) (k := 1) hd3) (And.intro (lt_at hd3) trivial)))))) (by kernel_rfl) (by (simp only [sd77, go_sem, List.length_set, Nat.reduceAdd, Nat.reduceEqDiff, Nat.reduceLT, Nat.reduceLeDiff, bI2, zK.idsL, zK.renL, zK.snapAll, zo.idsL, zo.renL, zo.snapAll]) <;> rfl) (ih (i3 + 1) (va3_0 ++ [(zn (GS.at e.items x3))]) (zH hd3) (zw hd3) (by first | assumption | omega | (simp only [zd] at * <;> omega) | (simp only [zb, z8, za, GS.some_l, List.length_set, List.length_append, List.length_cons, List.length_nil] at * <;> first | with_reducible assumption | omega) | (simp only [zb, z8, za, GS.some_l, List.length_set, List.length_append, List.length_cons, List.length_nil, zd] at * <;> first | with_reducible assumption | omega) | (simp at * <;> omega)) (by first | assumption | omega | (simp only [zd] at * <;> omega) | (simp only [zb, z8, za, GS.some_l, List.length_set, List.length_append, List.length_cons, List.length_nil] at * <;> first | with_reducible assumption | omega) | (simp only [zb, z8, za, GS.some_l, List.length_set, List.length_append, List.length_cons, List.length_nil, zd] at * <;> first | with_reducible assumption | omega) | (simp at * <;> omega)) (by first | assumption | omega | (simp only [zd] at * <;> omega) | (simp only [zb, z8, za, GS.some_l, List.length_set, List.length_append, List.length_cons, List.length_nil] at * <;> first | with_reducible assumption | omega) | (simp only [zb, z8, za, GS.some_l, List.length_set, List.length_append, List.length_cons, List.length_nil, zd] at * <;> first | with_reducible assumption | omega) | (simp at * <;> omega))) (by kernel_rfl)
theorem ivt_orders_gains_3a (e : S_Estate) (items : GS Int) : ∀ (rest3 : List Int) (i3 : Nat) (va3_0 : List Int) (hd3 : items.l.drop i3 = rest3) (hi3 : i3 ≤ items.l.length) (hall : ∀ i ∈ items.l, 0 ≤ i ∧ i < ((e.items.l.length : Nat) : Int)) (hg3_va3_0 : va3_0.length ≤ i3) (hL3 : items.l.length ≤ 1099511627776), iv_orders_gains_3 e items (orders_gains_3a e rest3 va3_0) := by
  intro rest3
  induction rest3 with
  | nil =>
    intro i3 va3_0 hd3 hi3 hall hg3_va3_0 hL3
    unfold orders_gains_3a
    obtain rfl : i3 = items.l.length := nil_eq hd3 hi3
    exact hg3_va3_0
  | cons x3 rest3 ih =>
    intro i3 va3_0 hd3 hi3 hall hg3_va3_0 hL3
    have hlt3 := zw hd3
    have hbx := hall x3 (mem_drop hd3)
    unfold orders_gains_3a
    exact ih (i3 + 1) (va3_0 ++ [(zn (GS.at e.items x3))]) (zH hd3) (zw hd3) (by first | assumption | omega | (simp only [zd] at * <;> omega) | (simp only [zb, z8, za, GS.some_l, List.length_set, List.length_append, List.length_cons, List.length_nil] at * <;> first | with_reducible assumption | omega) | (simp only [zb, z8, za, GS.some_l, List.length_set, List.length_append, List.length_cons, List.length_nil, zd] at * <;> first | with_reducible assumption | omega) | (simp at * <;> omega)) (by first | assumption | omega | (simp only [zd] at * <;> omega) | (simp only [zb, z8, za, GS.some_l, List.length_set, List.length_append, List.length_cons, List.length_nil] at * <;> first | with_reducible assumption | omega) | (simp only [zb, z8, za, GS.some_l, List.length_set, List.length_append, List.length_cons, List.length_nil, zd] at * <;> first | with_reducible assumption | omega) | (simp at * <;> omega)) (by first | assumption | omega | (simp only [zd] at * <;> omega) | (simp only [zb, z8, za, GS.some_l, List.length_set, List.length_append, List.length_cons, List.length_nil] at * <;> first | with_reducible assumption | omega) | (simp only [zb, z8, za, GS.some_l, List.length_set, List.length_append, List.length_cons, List.length_nil, zd] at * <;> first | with_reducible assumption | omega) | (simp at * <;> omega))
theorem lp_orders_gains_3 (e : S_Estate) (items : GS Int) : ∀ (rest3 : List Int) (i3 : Nat) (hd3 : items.l.drop i3 = rest3) (hi3 : i3 ≤ items.l.length) (hall : ∀ i ∈ items.l, 0 ≤ i ∧ i < ((e.items.l.length : Nat) : Int)) (hL3 : items.l.length ≤ 1099511627776), (lim cfg).loop 66 lp66_3 ⟨25, [(2, .lref 0 0 3 0), (5, .sl true [] 0 none), (8, .sl items.nl (items.l.map I) (zsl items.nl 1) none), (9, I ((items.l.length : Nat) : Int)), (10, I ((i3 : Nat) : Int))], [(0, ⟨[.agg [.sl e.items.nl (e.items.l.map S_Item.D) (zsl e.items.nl 4) none, I e.whole.lo, I e.whole.hi]], 3, false⟩)], 1, 0⟩ = some (lr_orders_gains_3 e items (orders_gains_3 e rest3)) := by
  intro rest3
  induction rest3 with
  | nil =>
    intro i3 hd3 hi3 hall hL3
    unfold orders_gains_3
    obtain rfl : i3 = items.l.length := nil_eq hd3 hi3
    exact zF [.dec false] (And.intro (lt_no hd3) trivial) (by kernel_rfl)
  | cons x3 rest3 ih =>
    intro i3 hd3 hi3 hall hL3
    have hlt3 := zw hd3
    have hbx := hall x3 (mem_drop hd3)
    unfold orders_gains_3
    dsimp only
    exact po_turn [.dec true, .el (I x3), .el (.agg [I ((GS.at e.items x3).now.lo), I ((GS.at e.items x3).now.hi), I ((GS.at e.items x3).cost), I ((GS.at e.items x3).error)]), .pure (I (zn (GS.at e.items x3))), .rw 23 (I ((i3 + 1 : Nat) : Int))] (And.intro (inc_rw (i := i3) (by have := zw hd3; omega)) (And.intro (T_orders_gain (GS.at e.items x3)) (And.intro (el_in (s := e.items) (f := S_Item.D) (k := 4) (i := x3) (by first | assumption | omega | (simp only [zd] at * <;> omega) | (simp only [zb, z8, za, GS.some_l, List.length_set, List.length_append, List.length_cons, List.length_nil] at * <;> first | with_reducible assumption | omega) | (simp only [zb, z8, za, GS.some_l, List.length_set, List.length_append, List.length_cons, List.length_nil, zd] at * <;> first | with_reducible assumption | omega) | (simp at * <;> omega)) (by first | assumption | omega | (simp only [zd] at * <;> omega) | (simp only [zb, z8, za, GS.some_l, List.length_set, List.length_append, List.length_cons, List.length_nil] at * <;> first | with_reducible assumption | omega) | (simp only [zb, z8, za, GS.some_l, List.length_set, List.length_append, List.length_cons, List.length_nil, zd] at * <;> first | with_reducible assumption | omega) | (simp at * <;> omega))) (And.intro (el_at (s := items) (f := I) (k := 1) hd3) (And.intro (lt_at hd3) trivial))))) (lp_orders_gains_3a e items _ (i3 + 1) [(zn (GS.at e.items x3))] (zH hd3) (zw hd3) (by first | assumption | omega | (simp only [zd] at * <;> omega) | (simp only [zb, z8, za, GS.some_l, List.length_set, List.length_append, List.length_cons, List.length_nil] at * <;> first | with_reducible assumption | omega) | (simp only [zb, z8, za, GS.some_l, List.length_set, List.length_append, List.length_cons, List.length_nil, zd] at * <;> first | with_reducible assumption | omega) | (simp at * <;> omega)) (by first | assumption | omega | (simp only [zd] at * <;> omega) | (simp only [zb, z8, za, GS.some_l, List.length_set, List.length_append, List.length_cons, List.length_nil] at * <;> first | with_reducible assumption | omega) | (simp only [zb, z8, za, GS.some_l, List.length_set, List.length_append, List.length_cons, List.length_nil, zd] at * <;> first | with_reducible assumption | omega) | (simp at * <;> omega)) (by first | assumption | omega | (simp only [zd] at * <;> omega) | (simp only [zb, z8, za, GS.some_l, List.length_set, List.length_append, List.length_cons, List.length_nil] at * <;> first | with_reducible assumption | omega) | (simp only [zb, z8, za, GS.some_l, List.length_set, List.length_append, List.length_cons, List.length_nil, zd] at * <;> first | with_reducible assumption | omega) | (simp at * <;> omega))) (by kernel_rfl)
theorem ivt_orders_gains_3 (e : S_Estate) (items : GS Int) : ∀ (rest3 : List Int) (i3 : Nat) (hd3 : items.l.drop i3 = rest3) (hi3 : i3 ≤ items.l.length) (hall : ∀ i ∈ items.l, 0 ≤ i ∧ i < ((e.items.l.length : Nat) : Int)) (hL3 : items.l.length ≤ 1099511627776), iv_orders_gains_3 e items (orders_gains_3 e rest3) := by
  intro rest3
  induction rest3 with
  | nil =>
    intro i3 hd3 hi3 hall hL3
    unfold orders_gains_3
    obtain rfl : i3 = items.l.length := nil_eq hd3 hi3
    exact trivial
  | cons x3 rest3 ih =>
    intro i3 hd3 hi3 hall hL3
    have hlt3 := zw hd3
    have hbx := hall x3 (mem_drop hd3)
    unfold orders_gains_3
    dsimp only
    exact ivt_orders_gains_3a e items _ (i3 + 1) [(zn (GS.at e.items x3))] (zH hd3) (zw hd3) (by first | assumption | omega | (simp only [zd] at * <;> omega) | (simp only [zb, z8, za, GS.some_l, List.length_set, List.length_append, List.length_cons, List.length_nil] at * <;> first | with_reducible assumption | omega) | (simp only [zb, z8, za, GS.some_l, List.length_set, List.length_append, List.length_cons, List.length_nil, zd] at * <;> first | with_reducible assumption | omega) | (simp at * <;> omega)) (by first | assumption | omega | (simp only [zd] at * <;> omega) | (simp only [zb, z8, za, GS.some_l, List.length_set, List.length_append, List.length_cons, List.length_nil] at * <;> first | with_reducible assumption | omega) | (simp only [zb, z8, za, GS.some_l, List.length_set, List.length_append, List.length_cons, List.length_nil, zd] at * <;> first | with_reducible assumption | omega) | (simp at * <;> omega)) (by first | assumption | omega | (simp only [zd] at * <;> omega) | (simp only [zb, z8, za, GS.some_l, List.length_set, List.length_append, List.length_cons, List.length_nil] at * <;> first | with_reducible assumption | omega) | (simp only [zb, z8, za, GS.some_l, List.length_set, List.length_append, List.length_cons, List.length_nil, zd] at * <;> first | with_reducible assumption | omega) | (simp at * <;> omega))

def zG (e : S_Estate) (items : GS Int) : (GS Int) :=
  match orders_gains_3 e items.l with
  | .x0 va3_0 =>
    GS.some va3_0
  | .x1 =>
    GS.nil

def sd78 (e : S_Estate) (items : GS Int) (va3_0 : List Int) : St := ⟨25, [(11, B false), (2, .lref 0 0 3 0), (5, .lsl 1 0 va3_0.length 1 none), (8, .sl items.nl (items.l.map I) (zsl items.nl 1) none), (9, I ((items.l.length : Nat) : Int)), (10, I ((items.l.length : Nat) : Int))], [(0, ⟨[.agg [.sl e.items.nl (e.items.l.map S_Item.D) (zsl e.items.nl 4) none, I e.whole.lo, I e.whole.hi]], 3, false⟩), (1, ⟨va3_0.map I, 1, false⟩)], 2, 0⟩

def sd79 (e : S_Estate) (items : GS Int) : St := ⟨25, [(11, B false), (2, .lref 0 0 3 0), (5, .sl true [] 0 none), (8, .sl items.nl (items.l.map I) (zsl items.nl 1) none), (9, I ((items.l.length : Nat) : Int)), (10, I ((items.l.length : Nat) : Int))], [(0, ⟨[.agg [.sl e.items.nl (e.items.l.map S_Item.D) (zsl e.items.nl 4) none, I e.whole.lo, I e.whole.hi]], 3, false⟩)], 1, 0⟩

theorem T_orders_gains (e : S_Estate) (items : GS Int) (hall : ∀ i ∈ items.l, 0 ≤ i ∧ i < ((e.items.l.length : Nat) : Int)) (hL_items : items.l.length ≤ 1099511627776) : (lim cfg).pure 66 [S_Estate.D e, GS.D I 1 items] = some (GS.D I 1 (zG e items)) := by
  unfold zG
  cases h1 : orders_gains_3 e items.l with
  | x0 va3_0 =>
    try dsimp only
    have hv_h1 := ivt_orders_gains_3 e items items.l 0 (List.drop_zero) (Nat.zero_le _) (by first | assumption | omega | (simp only [zd] at * <;> omega) | (simp only [zb, z8, za, GS.some_l, List.length_set, List.length_append, List.length_cons, List.length_nil] at * <;> first | with_reducible assumption | omega) | (simp only [zb, z8, za, GS.some_l, List.length_set, List.length_append, List.length_cons, List.length_nil, zd] at * <;> first | with_reducible assumption | omega) | (simp at * <;> omega)) (by first | assumption | omega | (simp only [zd] at * <;> omega) | (simp only [zb, z8, za, GS.some_l, List.length_set, List.length_append, List.length_cons, List.length_nil] at * <;> first | with_reducible assumption | omega) | (simp only [zb, z8, za, GS.some_l, List.length_set, List.length_append, List.length_cons, List.length_nil, zd] at * <;> first | with_reducible assumption | omega) | (simp at * <;> omega))
    rw [h1] at hv_h1
    have hv_h1_0 := hv_h1
    try dsimp only [iv_orders_gains_3] at hv_h1_0
    exact po_pureS [.rw 9 (I ((items.l.length : Nat) : Int)), .loop (.exit 0) (sd78 e items va3_0)] [(1, .sl false (va3_0.map I) 1 none, [1])] (And.intro (snap_row (gO := zx [(0, ⟨[.agg [.sl e.items.nl (e.items.l.map S_Item.D) (zsl e.items.nl 4) none, I e.whole.lo, I e.whole.hi]], 3, false⟩), (1, ⟨va3_0.map I, 1, false⟩)]) (o := 1) (len := va3_0.length) (cap := none) (fz := false) zK va3_0 (by kernel_rfl) (by first | assumption | omega | (simp only [zd] at * <;> omega) | (simp only [zb, z8, za, GS.some_l, List.length_set, List.length_append, List.length_cons, List.length_nil] at * <;> first | with_reducible assumption | omega) | (simp only [zb, z8, za, GS.some_l, List.length_set, List.length_append, List.length_cons, List.length_nil, zd] at * <;> first | with_reducible assumption | omega) | (simp at * <;> omega))) (And.intro (po_lr (q := lr_orders_gains_3 e items) (lp_orders_gains_3 e items items.l 0 (List.drop_zero) (Nat.zero_le _) (by first | assumption | omega | (simp only [zd] at * <;> omega) | (simp only [zb, z8, za, GS.some_l, List.length_set, List.length_append, List.length_cons, List.length_nil] at * <;> first | with_reducible assumption | omega) | (simp only [zb, z8, za, GS.some_l, List.length_set, List.length_append, List.length_cons, List.length_nil, zd] at * <;> first | with_reducible assumption | omega) | (simp at * <;> omega)) (by first | assumption | omega | (simp only [zd] at * <;> omega) | (simp only [zb, z8, za, GS.some_l, List.length_set, List.length_append, List.length_cons, List.length_nil] at * <;> first | with_reducible assumption | omega) | (simp only [zb, z8, za, GS.some_l, List.length_set, List.length_append, List.length_cons, List.length_nil, zd] at * <;> first | with_reducible assumption | omega) | (simp at * <;> omega))) h1) (And.intro (zt I items) trivial))) (by kernel_rfl)
  | x1 =>
    try dsimp only
    exact zu [.rw 9 (I ((items.l.length : Nat) : Int)), .loop (.exit 0) (sd79 e items)] (And.intro (po_lr (q := lr_orders_gains_3 e items) (lp_orders_gains_3 e items items.l 0 (List.drop_zero) (Nat.zero_le _) (by first | assumption | omega | (simp only [zd] at * <;> omega) | (simp only [zb, z8, za, GS.some_l, List.length_set, List.length_append, List.length_cons, List.length_nil] at * <;> first | with_reducible assumption | omega) | (simp only [zb, z8, za, GS.some_l, List.length_set, List.length_append, List.length_cons, List.length_nil, zd] at * <;> first | with_reducible assumption | omega) | (simp at * <;> omega)) (by first | assumption | omega | (simp only [zd] at * <;> omega) | (simp only [zb, z8, za, GS.some_l, List.length_set, List.length_append, List.length_cons, List.length_nil] at * <;> first | with_reducible assumption | omega) | (simp only [zb, z8, za, GS.some_l, List.length_set, List.length_append, List.length_cons, List.length_nil, zd] at * <;> first | with_reducible assumption | omega) | (simp at * <;> omega))) h1) (And.intro (zt I items) trivial)) (by kernel_rfl)

theorem gains_l (e : S_Estate) (items : GS Int) : (zG e items).l = items.l.map (fun i => zn (e.items.at i)) ∧ (zG e items).nl = items.l.isEmpty := by
  have key : ∀ (l v : List Int), orders_gains_3a e l v = .x0 (v ++ l.map (fun i => zn (e.items.at i))) := by
    intro l
    induction l with
    | nil => intro v; simp [orders_gains_3a]
    | cons x l ih => intro v; rw [orders_gains_3a, ih]; simp
  unfold zG
  cases items.l with
  | nil => exact ⟨rfl, rfl⟩
  | cons x l => rw [orders_gains_3, key]; exact ⟨rfl, rfl⟩
theorem za (e : S_Estate) (items : GS Int) : (zG e items).l.length = items.l.length := by rw [(gains_l e items).1, List.length_map]


inductive LR_orders_shown_3 where
  | x0 (va3_0 : Int) (va3_1 : List Int)
  | x1
instance : Inhabited LR_orders_shown_3 := ⟨.x0 default default⟩
def orders_shown_3a (e : S_Estate) (s : Int) : List Int → Int → (List Int) → LR_orders_shown_3
  | [], va3_0, va3_1 => .x0 va3_0 va3_1
  | x3 :: rest3, va3_0, va3_1 =>
    orders_shown_3a e s rest3 (w64 (va3_0 - (imin va3_0 (zn (GS.at e.items x3))))) (va3_1 ++ [w64 ((w64 (((GS.at e.items x3).now.lo) + ((GS.at e.items x3).error))) + (imin va3_0 (zn (GS.at e.items x3))))])
def orders_shown_3 (e : S_Estate) (s : Int) : List Int → LR_orders_shown_3
  | [] => .x1
  | x3 :: rest3 =>
    orders_shown_3a e s rest3 (w64 (s - (imin s (zn (GS.at e.items x3))))) [w64 ((w64 (((GS.at e.items x3).now.lo) + ((GS.at e.items x3).error))) + (imin s (zn (GS.at e.items x3))))]
def orders_shown (e : S_Estate) (items : GS Int) (s : Int) : (GS Int) :=
  match orders_shown_3 e s items.l with
  | .x0 va3_0 va3_1 =>
    GS.some va3_1
  | .x1 =>
    GS.nil

noncomputable def lp67_3 : Code := subC [1, 1, 0, 1, 0, 0] (bodyC Try.f67)

def sd84 (n : Int) (i3 : Nat) (va3_0 : List Int) : St := ⟨15, [(6, I ((i3 + 1 : Nat) : Int)), (13, I ((i3 + 1 : Nat) : Int)), (3, .lsl 2 0 ((va3_0 ++ [((i3 : Nat) : Int)]).length) 1 none), (12, .lsl 2 0 ((va3_0 ++ [((i3 : Nat) : Int)]).length) 1 none), (11, .lsl 1 0 1 1 (some 1)), (10, I ((i3 : Nat) : Int)), (9, .lsl 0 0 va3_0.length 1 none), (4, I ((i3 : Nat) : Int)), (8, I ((i3 : Nat) : Int)), (7, B true), (3, .lsl 0 0 va3_0.length 1 none), (5, I n), (6, I ((i3 : Nat) : Int))], [(1, ⟨[I ((i3 : Nat) : Int)], 1, false⟩), (2, ⟨(va3_0 ++ [((i3 : Nat) : Int)]).map I, 1, false⟩)], 3, 0⟩

inductive LR_orders_numbers_3 where
  | x0 (i3 : Nat) (va3_0 : List Int)
  | x1 (i3 : Nat)
instance : Inhabited LR_orders_numbers_3 := ⟨.x0 default default⟩
def orders_numbers_3a : Nat → Nat → (List Int) → LR_orders_numbers_3
  | 0, i3, va3_0 => .x0 i3 va3_0
  | rest3 + 1, i3, va3_0 =>
    orders_numbers_3a rest3 (i3 + 1) (va3_0 ++ [((i3 : Nat) : Int)])
def orders_numbers_3 : Nat → Nat → LR_orders_numbers_3
  | 0, i3 => .x1 i3
  | rest3 + 1, i3 =>
    orders_numbers_3a rest3 (i3 + 1) [((i3 : Nat) : Int)]
def lr_orders_numbers_3 (n : Int) : LR_orders_numbers_3 → Exit × St
  | .x0 i3 va3_0 => ((.exit 0), ⟨15, [(7, B false), (3, .lsl 0 0 va3_0.length 1 none), (5, I n), (6, I ((i3 : Nat) : Int))], [(0, ⟨va3_0.map I, 1, false⟩)], 1, 0⟩)
  | .x1 i3 => ((.exit 0), ⟨15, [(7, B false), (3, .sl true [] 0 none), (5, I n), (6, I ((i3 : Nat) : Int))], [], 0, 0⟩)
def iv_orders_numbers_3 (n : Int) : LR_orders_numbers_3 → Prop
  | .x0 i3 va3_0 => (va3_0.length ≤ i3)
  | .x1 i3 => True
theorem lp_orders_numbers_3a (n : Int) : ∀ (rest3 : Nat) (i3 : Nat) (va3_0 : List Int) (hk3 : (n - ((i3 : Nat) : Int)).toNat = rest3) (hN3 : n ≤ 9223372036854775807) (hn : n ≤ 1099511627776) (hg3_va3_0 : va3_0.length ≤ i3) (hL3 : n ≤ 1099511627776), (lim cfg).loop 67 lp67_3 ⟨15, [(3, .lsl 0 0 va3_0.length 1 none), (5, I n), (6, I ((i3 : Nat) : Int))], [(0, ⟨va3_0.map I, 1, false⟩)], 1, 0⟩ = some (lr_orders_numbers_3 n (orders_numbers_3a rest3 i3 va3_0)) := by
  intro rest3
  induction rest3 with
  | zero =>
    intro i3 va3_0 hk3 hN3 hn hg3_va3_0 hL3
    unfold orders_numbers_3a
    exact zF [.dec false] (And.intro (ct_no hk3) trivial) (by kernel_rfl)
  | succ rest3 ih =>
    intro i3 va3_0 hk3 hN3 hn hg3_va3_0 hL3
    have hlt3 := of_decide_eq_true (ct_at hk3)
    unfold orders_numbers_3a
    exact po_turn' (ks := [3, 5, 6]) (st' := (sd84 n i3 va3_0)) [.dec true, .op (some 12) ⟨.lsl 2 0 ((va3_0 ++ [((i3 : Nat) : Int)]).length) 1 none, [(0, none), (2, some ⟨(va3_0 ++ [((i3 : Nat) : Int)]).map I, 1, false⟩)], [0, 1], 3⟩, .rw 13 (I ((i3 + 1 : Nat) : Int))] (And.intro (inc_rw (i := i3) (by first | assumption | omega | (simp only [zd] at * <;> omega) | (simp only [zb, z8, za, GS.some_l, List.length_set, List.length_append, List.length_cons, List.length_nil] at * <;> first | with_reducible assumption | omega) | (simp only [zb, z8, za, GS.some_l, List.length_set, List.length_append, List.length_cons, List.length_nil, zd] at * <;> first | with_reducible assumption | omega) | (simp at * <;> omega))) (And.intro (app_row (f := I) (te := ty3) (gO := zx [(0, ⟨va3_0.map I, 1, false⟩), (1, ⟨[I ((i3 : Nat) : Int)], 1, false⟩)]) (nxt := 2) (o := 0) (o2 := 1) (fz := false) zK va3_0 ((i3 : Nat) : Int) (by kernel_rfl) (by kernel_rfl) rfl (by kernel_rfl) (by decide) ⟨by simp only [ty3, big] <;> (first | assumption | omega | (simp only [zd] at * <;> omega) | (simp only [zb, z8, za, GS.some_l, List.length_set, List.length_append, List.length_cons, List.length_nil] at * <;> first | with_reducible assumption | omega) | (simp only [zb, z8, za, GS.some_l, List.length_set, List.length_append, List.length_cons, List.length_nil, zd] at * <;> first | with_reducible assumption | omega) | (simp at * <;> omega)), by simp only [big] <;> (first | assumption | omega | (simp only [zd] at * <;> omega) | (simp only [zb, z8, za, GS.some_l, List.length_set, List.length_append, List.length_cons, List.length_nil] at * <;> first | with_reducible assumption | omega) | (simp only [zb, z8, za, GS.some_l, List.length_set, List.length_append, List.length_cons, List.length_nil, zd] at * <;> first | with_reducible assumption | omega) | (simp at * <;> omega))⟩) (And.intro (ct_at hk3) trivial))) (by kernel_rfl) (by (simp only [sd84, go_sem, List.length_set, Nat.reduceAdd, Nat.reduceEqDiff, Nat.reduceLT, Nat.reduceLeDiff, bI2, zK.idsL, zK.renL, zK.snapAll, zo.idsL, zo.renL, zo.snapAll]) <;> rfl) (ih (i3 + 1) (va3_0 ++ [((i3 : Nat) : Int)]) (by omega) hN3 (by first | assumption | omega | (simp only [zd] at * <;> omega) | (simp only [zb, z8, za, GS.some_l, List.length_set, List.length_append, List.length_cons, List.length_nil] at * <;> first | with_reducible assumption | omega) | (simp only [zb, z8, za, GS.some_l, List.length_set, List.length_append, List.length_cons, List.length_nil, zd] at * <;> first | with_reducible assumption | omega) | (simp at * <;> omega)) (by first | assumption | omega | (simp only [zd] at * <;> omega) | (simp only [zb, z8, za, GS.some_l, List.length_set, List.length_append, List.length_cons, List.length_nil] at * <;> first | with_reducible assumption | omega) | (simp only [zb, z8, za, GS.some_l, List.length_set, List.length_append, List.length_cons, List.length_nil, zd] at * <;> first | with_reducible assumption | omega) | (simp at * <;> omega)) (by first | assumption | omega | (simp only [zd] at * <;> omega) | (simp only [zb, z8, za, GS.some_l, List.length_set, List.length_append, List.length_cons, List.length_nil] at * <;> first | with_reducible assumption | omega) | (simp only [zb, z8, za, GS.some_l, List.length_set, List.length_append, List.length_cons, List.length_nil, zd] at * <;> first | with_reducible assumption | omega) | (simp at * <;> omega))) (by kernel_rfl)
theorem ivt_orders_numbers_3a (n : Int) : ∀ (rest3 : Nat) (i3 : Nat) (va3_0 : List Int) (hk3 : (n - ((i3 : Nat) : Int)).toNat = rest3) (hN3 : n ≤ 9223372036854775807) (hn : n ≤ 1099511627776) (hg3_va3_0 : va3_0.length ≤ i3) (hL3 : n ≤ 1099511627776), iv_orders_numbers_3 n (orders_numbers_3a rest3 i3 va3_0) := by
  intro rest3
  induction rest3 with
  | zero =>
    intro i3 va3_0 hk3 hN3 hn hg3_va3_0 hL3
    unfold orders_numbers_3a
    exact hg3_va3_0
  | succ rest3 ih =>
    intro i3 va3_0 hk3 hN3 hn hg3_va3_0 hL3
    have hlt3 := of_decide_eq_true (ct_at hk3)
    unfold orders_numbers_3a
    exact ih (i3 + 1) (va3_0 ++ [((i3 : Nat) : Int)]) (by omega) hN3 (by first | assumption | omega | (simp only [zd] at * <;> omega) | (simp only [zb, z8, za, GS.some_l, List.length_set, List.length_append, List.length_cons, List.length_nil] at * <;> first | with_reducible assumption | omega) | (simp only [zb, z8, za, GS.some_l, List.length_set, List.length_append, List.length_cons, List.length_nil, zd] at * <;> first | with_reducible assumption | omega) | (simp at * <;> omega)) (by first | assumption | omega | (simp only [zd] at * <;> omega) | (simp only [zb, z8, za, GS.some_l, List.length_set, List.length_append, List.length_cons, List.length_nil] at * <;> first | with_reducible assumption | omega) | (simp only [zb, z8, za, GS.some_l, List.length_set, List.length_append, List.length_cons, List.length_nil, zd] at * <;> first | with_reducible assumption | omega) | (simp at * <;> omega)) (by first | assumption | omega | (simp only [zd] at * <;> omega) | (simp only [zb, z8, za, GS.some_l, List.length_set, List.length_append, List.length_cons, List.length_nil] at * <;> first | with_reducible assumption | omega) | (simp only [zb, z8, za, GS.some_l, List.length_set, List.length_append, List.length_cons, List.length_nil, zd] at * <;> first | with_reducible assumption | omega) | (simp at * <;> omega))
theorem lp_orders_numbers_3 (n : Int) : ∀ (rest3 : Nat) (i3 : Nat) (hk3 : (n - ((i3 : Nat) : Int)).toNat = rest3) (hN3 : n ≤ 9223372036854775807) (hn : n ≤ 1099511627776) (hL3 : n ≤ 1099511627776), (lim cfg).loop 67 lp67_3 ⟨15, [(3, .sl true [] 0 none), (5, I n), (6, I ((i3 : Nat) : Int))], [], 0, 0⟩ = some (lr_orders_numbers_3 n (orders_numbers_3 rest3 i3)) := by
  intro rest3
  induction rest3 with
  | zero =>
    intro i3 hk3 hN3 hn hL3
    unfold orders_numbers_3
    exact zF [.dec false] (And.intro (ct_no hk3) trivial) (by kernel_rfl)
  | succ rest3 ih =>
    intro i3 hk3 hN3 hn hL3
    have hlt3 := of_decide_eq_true (ct_at hk3)
    unfold orders_numbers_3
    dsimp only
    exact po_turn [.dec true, .rw 13 (I ((i3 + 1 : Nat) : Int))] (And.intro (inc_rw (i := i3) (by first | assumption | omega | (simp only [zd] at * <;> omega) | (simp only [zb, z8, za, GS.some_l, List.length_set, List.length_append, List.length_cons, List.length_nil] at * <;> first | with_reducible assumption | omega) | (simp only [zb, z8, za, GS.some_l, List.length_set, List.length_append, List.length_cons, List.length_nil, zd] at * <;> first | with_reducible assumption | omega) | (simp at * <;> omega))) (And.intro (ct_at hk3) trivial)) (lp_orders_numbers_3a n _ (i3 + 1) [((i3 : Nat) : Int)] (by omega) hN3 (by first | assumption | omega | (simp only [zd] at * <;> omega) | (simp only [zb, z8, za, GS.some_l, List.length_set, List.length_append, List.length_cons, List.length_nil] at * <;> first | with_reducible assumption | omega) | (simp only [zb, z8, za, GS.some_l, List.length_set, List.length_append, List.length_cons, List.length_nil, zd] at * <;> first | with_reducible assumption | omega) | (simp at * <;> omega)) (by first | assumption | omega | (simp only [zd] at * <;> omega) | (simp only [zb, z8, za, GS.some_l, List.length_set, List.length_append, List.length_cons, List.length_nil] at * <;> first | with_reducible assumption | omega) | (simp only [zb, z8, za, GS.some_l, List.length_set, List.length_append, List.length_cons, List.length_nil, zd] at * <;> first | with_reducible assumption | omega) | (simp at * <;> omega)) (by first | assumption | omega | (simp only [zd] at * <;> omega) | (simp only [zb, z8, za, GS.some_l, List.length_set, List.length_append, List.length_cons, List.length_nil] at * <;> first | with_reducible assumption | omega) | (simp only [zb, z8, za, GS.some_l, List.length_set, List.length_append, List.length_cons, List.length_nil, zd] at * <;> first | with_reducible assumption | omega) | (simp at * <;> omega))) (by kernel_rfl)
theorem ivt_orders_numbers_3 (n : Int) : ∀ (rest3 : Nat) (i3 : Nat) (hk3 : (n - ((i3 : Nat) : Int)).toNat = rest3) (hN3 : n ≤ 9223372036854775807) (hn : n ≤ 1099511627776) (hL3 : n ≤ 1099511627776), iv_orders_numbers_3 n (orders_numbers_3 rest3 i3) := by
  intro rest3
  induction rest3 with
  | zero =>
    intro i3 hk3 hN3 hn hL3
    unfold orders_numbers_3
    exact trivial
  | succ rest3 ih =>
    intro i3 hk3 hN3 hn hL3
    have hlt3 := of_decide_eq_true (ct_at hk3)
    unfold orders_numbers_3
    dsimp only
    exact ivt_orders_numbers_3a n _ (i3 + 1) [((i3 : Nat) : Int)] (by omega) hN3 (by first | assumption | omega | (simp only [zd] at * <;> omega) | (simp only [zb, z8, za, GS.some_l, List.length_set, List.length_append, List.length_cons, List.length_nil] at * <;> first | with_reducible assumption | omega) | (simp only [zb, z8, za, GS.some_l, List.length_set, List.length_append, List.length_cons, List.length_nil, zd] at * <;> first | with_reducible assumption | omega) | (simp at * <;> omega)) (by first | assumption | omega | (simp only [zd] at * <;> omega) | (simp only [zb, z8, za, GS.some_l, List.length_set, List.length_append, List.length_cons, List.length_nil] at * <;> first | with_reducible assumption | omega) | (simp only [zb, z8, za, GS.some_l, List.length_set, List.length_append, List.length_cons, List.length_nil, zd] at * <;> first | with_reducible assumption | omega) | (simp at * <;> omega)) (by first | assumption | omega | (simp only [zd] at * <;> omega) | (simp only [zb, z8, za, GS.some_l, List.length_set, List.length_append, List.length_cons, List.length_nil] at * <;> first | with_reducible assumption | omega) | (simp only [zb, z8, za, GS.some_l, List.length_set, List.length_append, List.length_cons, List.length_nil, zd] at * <;> first | with_reducible assumption | omega) | (simp at * <;> omega))

def zO (n : Int) : (GS Int) :=
  match orders_numbers_3 (n - 0).toNat 0 with
  | .x0 i3 va3_0 =>
    GS.some va3_0
  | .x1 i3 =>
    GS.nil

theorem T_orders_numbers (n : Int) (hn : n ≤ 1099511627776) : (lim cfg).pure 67 [I n] = some (GS.D I 1 (zO n)) := by
  unfold zO
  cases h1 : orders_numbers_3 (n - 0).toNat 0 with
  | x0 i3 va3_0 =>
    try dsimp only
    have hv_h1 := ivt_orders_numbers_3 n (n - 0).toNat 0 (by omega) (by first | assumption | omega | (simp only [zd] at * <;> omega) | (simp only [zb, z8, za, GS.some_l, List.length_set, List.length_append, List.length_cons, List.length_nil] at * <;> first | with_reducible assumption | omega) | (simp only [zb, z8, za, GS.some_l, List.length_set, List.length_append, List.length_cons, List.length_nil, zd] at * <;> first | with_reducible assumption | omega) | (simp at * <;> omega)) (by first | assumption | omega | (simp only [zd] at * <;> omega) | (simp only [zb, z8, za, GS.some_l, List.length_set, List.length_append, List.length_cons, List.length_nil] at * <;> first | with_reducible assumption | omega) | (simp only [zb, z8, za, GS.some_l, List.length_set, List.length_append, List.length_cons, List.length_nil, zd] at * <;> first | with_reducible assumption | omega) | (simp at * <;> omega)) (by first | assumption | omega | (simp only [zd] at * <;> omega) | (simp only [zb, z8, za, GS.some_l, List.length_set, List.length_append, List.length_cons, List.length_nil] at * <;> first | with_reducible assumption | omega) | (simp only [zb, z8, za, GS.some_l, List.length_set, List.length_append, List.length_cons, List.length_nil, zd] at * <;> first | with_reducible assumption | omega) | (simp at * <;> omega))
    rw [h1] at hv_h1
    have hv_h1_0 := hv_h1
    try dsimp only [iv_orders_numbers_3] at hv_h1_0
    exact po_pureS [.loop (.exit 0) ⟨15, [(7, B false), (3, .lsl 0 0 va3_0.length 1 none), (5, I n), (6, I ((i3 : Nat) : Int))], [(0, ⟨va3_0.map I, 1, false⟩)], 1, 0⟩] [(0, .sl false (va3_0.map I) 1 none, [0])] (And.intro (snap_row (gO := zx [(0, ⟨va3_0.map I, 1, false⟩)]) (o := 0) (len := va3_0.length) (cap := none) (fz := false) zK va3_0 (by kernel_rfl) (by first | assumption | omega | (simp only [zd] at * <;> omega) | (simp only [zb, z8, za, GS.some_l, List.length_set, List.length_append, List.length_cons, List.length_nil] at * <;> first | with_reducible assumption | omega) | (simp only [zb, z8, za, GS.some_l, List.length_set, List.length_append, List.length_cons, List.length_nil, zd] at * <;> first | with_reducible assumption | omega) | (simp at * <;> omega))) (And.intro (po_lr (q := lr_orders_numbers_3 n) (lp_orders_numbers_3 n (n - 0).toNat 0 (by omega) (by first | assumption | omega | (simp only [zd] at * <;> omega) | (simp only [zb, z8, za, GS.some_l, List.length_set, List.length_append, List.length_cons, List.length_nil] at * <;> first | with_reducible assumption | omega) | (simp only [zb, z8, za, GS.some_l, List.length_set, List.length_append, List.length_cons, List.length_nil, zd] at * <;> first | with_reducible assumption | omega) | (simp at * <;> omega)) (by first | assumption | omega | (simp only [zd] at * <;> omega) | (simp only [zb, z8, za, GS.some_l, List.length_set, List.length_append, List.length_cons, List.length_nil] at * <;> first | with_reducible assumption | omega) | (simp only [zb, z8, za, GS.some_l, List.length_set, List.length_append, List.length_cons, List.length_nil, zd] at * <;> first | with_reducible assumption | omega) | (simp at * <;> omega)) (by first | assumption | omega | (simp only [zd] at * <;> omega) | (simp only [zb, z8, za, GS.some_l, List.length_set, List.length_append, List.length_cons, List.length_nil] at * <;> first | with_reducible assumption | omega) | (simp only [zb, z8, za, GS.some_l, List.length_set, List.length_append, List.length_cons, List.length_nil, zd] at * <;> first | with_reducible assumption | omega) | (simp at * <;> omega))) h1) trivial)) (by kernel_rfl)
  | x1 i3 =>
    try dsimp only
    exact zu [.loop (.exit 0) ⟨15, [(7, B false), (3, .sl true [] 0 none), (5, I n), (6, I ((i3 : Nat) : Int))], [], 0, 0⟩] (And.intro (po_lr (q := lr_orders_numbers_3 n) (lp_orders_numbers_3 n (n - 0).toNat 0 (by omega) (by first | assumption | omega | (simp only [zd] at * <;> omega) | (simp only [zb, z8, za, GS.some_l, List.length_set, List.length_append, List.length_cons, List.length_nil] at * <;> first | with_reducible assumption | omega) | (simp only [zb, z8, za, GS.some_l, List.length_set, List.length_append, List.length_cons, List.length_nil, zd] at * <;> first | with_reducible assumption | omega) | (simp at * <;> omega)) (by first | assumption | omega | (simp only [zd] at * <;> omega) | (simp only [zb, z8, za, GS.some_l, List.length_set, List.length_append, List.length_cons, List.length_nil] at * <;> first | with_reducible assumption | omega) | (simp only [zb, z8, za, GS.some_l, List.length_set, List.length_append, List.length_cons, List.length_nil, zd] at * <;> first | with_reducible assumption | omega) | (simp at * <;> omega)) (by first | assumption | omega | (simp only [zd] at * <;> omega) | (simp only [zb, z8, za, GS.some_l, List.length_set, List.length_append, List.length_cons, List.length_nil] at * <;> first | with_reducible assumption | omega) | (simp only [zb, z8, za, GS.some_l, List.length_set, List.length_append, List.length_cons, List.length_nil, zd] at * <;> first | with_reducible assumption | omega) | (simp at * <;> omega))) h1) trivial) (by kernel_rfl)
end Go.VS

namespace Go.VS
open Go Go.Proofs
set_option maxHeartbeats 0
set_option linter.unusedSimpArgs false
set_option linter.unusedVariables false
def upto (n : Int) : List Int := (List.range n.toNat).map (fun i => ((i : Nat) : Int))
theorem upto_mem {n : Int} : ∀ i ∈ upto n, 0 ≤ i ∧ i < n := by
  intro i hi
  obtain ⟨j, hj, rfl⟩ := List.mem_map.1 hi
  have := List.mem_range.1 hj
  omega
theorem numbers_l (n : Int) : (zO n).l = upto n ∧ (zO n).nl = (upto n).isEmpty := by
  have key : ∀ (k i : Nat) (v : List Int), ∃ j, orders_numbers_3a k i v = .x0 j (v ++ (List.range' i k).map (fun i => ((i : Nat) : Int))) := by
    intro k
    induction k with
    | zero => intro i v; exact ⟨i, by simp [orders_numbers_3a]⟩
    | succ k ih => intro i v; obtain ⟨j, hj⟩ := ih (i + 1) (v ++ [((i : Nat) : Int)]); exact ⟨j, by rw [orders_numbers_3a, hj, List.range'_succ]; simp⟩
  unfold zO upto
  rw [show n - 0 = n by omega]
  cases n.toNat with
  | zero => exact ⟨rfl, rfl⟩
  | succ k =>
    obtain ⟨j, hj⟩ := key k 1 [((0 : Nat) : Int)]
    rw [orders_numbers_3, hj, List.range_eq_range', List.range'_succ]
    exact ⟨rfl, rfl⟩
theorem zf {n : Int} : ∀ i ∈ (zO n).l, 0 ≤ i ∧ i < n := by rw [(numbers_l n).1]; exact upto_mem
theorem upto_len {n : Int} : (upto n).length = n.toNat := by unfold upto; simp
theorem z7 {n : Int} : (zO n).l.length = n.toNat := by rw [(numbers_l n).1, upto_len]

def zp (e : S_Estate) : (GS Int) × Int :=
  bif ((zJ e) != 0) then
    (GS.nil, (zJ e))
  else
    ((zG e (zO ((e.items.l.length : Nat) : Int))), 0)

theorem T_orders_Gains (e : S_Estate) : (lim cfg).pure 41 [S_Estate.D e] = some (.tup [GS.D I 1 ((zp e).1), I ((zp e).2)]) := by
  unfold zp
  cases h1 : ((zJ e) != 0) with
  | true =>
    have g1 := bne_true h1
    exact zu [.pure (I (zJ e)), .dec true] (And.intro h1 (And.intro (T_orders_Check e) trivial)) (by kernel_rfl)
  | false =>
    have g1 := check_len (bne_false h1)
    exact zu [.pure (I (zJ e)), .dec false, .rw 13 (I ((e.items.l.length : Nat) : Int)), .pure (.sl ((zO ((e.items.l.length : Nat) : Int)).nl) (((zO ((e.items.l.length : Nat) : Int)).l).map I) (zsl ((zO ((e.items.l.length : Nat) : Int)).nl) 1) none), .pure (.sl ((zG e (zO ((e.items.l.length : Nat) : Int))).nl) (((zG e (zO ((e.items.l.length : Nat) : Int))).l).map I) (zsl ((zG e (zO ((e.items.l.length : Nat) : Int))).nl) 1) none)] (And.intro (T_orders_gains e (zO ((e.items.l.length : Nat) : Int)) (by first | assumption | omega | (with_reducible exact zf) | (simp only [zd] at * <;> omega) | (simp only [zb, z8, za, z7, GS.some_l, List.length_set, List.length_append, List.length_cons, List.length_nil] at * <;> first | with_reducible assumption | omega) | (simp only [zb, z8, za, z7, GS.some_l, List.length_set, List.length_append, List.length_cons, List.length_nil, zd] at * <;> first | with_reducible assumption | omega) | (simp at * <;> omega)) (by first | assumption | omega | (with_reducible exact zf) | (simp only [zd] at * <;> omega) | (simp only [zb, z8, za, z7, GS.some_l, List.length_set, List.length_append, List.length_cons, List.length_nil] at * <;> first | with_reducible assumption | omega) | (simp only [zb, z8, za, z7, GS.some_l, List.length_set, List.length_append, List.length_cons, List.length_nil, zd] at * <;> first | with_reducible assumption | omega) | (simp at * <;> omega))) (And.intro (T_orders_numbers ((e.items.l.length : Nat) : Int) (by first | assumption | omega)) (And.intro (zt S_Item.D e.items) (And.intro h1 (And.intro (T_orders_Check e) trivial))))) (by kernel_rfl)

def orders_open (e : S_Estate) (items : GS Int) (low : Int) (high : Int) : (GS Int) × Bool :=
  bif decide ((imax ((orders_window_ends (orders_windowOf e (orders_total (zG e items)))).1) (w64 ((w64 (low + 1)) - ((orders_windowOf e (orders_total (zG e items))).at_.hi)))) > ((orders_window_ends (orders_windowOf e (orders_total (zG e items)))).2)) then
    (GS.nil, false)
  else
    bif decide (((orders_window_seen (orders_windowOf e (orders_total (zG e items))) (imax ((orders_window_ends (orders_windowOf e (orders_total (zG e items)))).1) (w64 ((w64 (low + 1)) - ((orders_windowOf e (orders_total (zG e items))).at_.hi))))).lo) ≥ high) then
      (GS.nil, false)
    else
      bif decide (((orders_window_seen (orders_windowOf e (orders_total (zG e items))) (imax ((orders_window_ends (orders_windowOf e (orders_total (zG e items)))).1) (w64 ((w64 (low + 1)) - ((orders_windowOf e (orders_total (zG e items))).at_.hi))))).hi) ≤ low) then
        (GS.nil, false)
      else
        ((orders_shown e items (imax ((orders_window_ends (orders_windowOf e (orders_total (zG e items)))).1) (w64 ((w64 (low + 1)) - ((orders_windowOf e (orders_total (zG e items))).at_.hi))))), true)

def orders_bounds (e : S_Estate) (items : GS Int) (low : Int) (high : Int) : Int :=
  bif ((orders_right e items) != 0) then
    (orders_right e items)
  else
    bif decide (low ≥ high) then
      1
    else
      bif decide (low < (-1099511627776)) then
        1
      else
        bif decide (high > 1099511627776) then
          1
        else
          0

def orders_Open (e : S_Estate) (items : GS Int) (low : Int) (high : Int) : (GS Int) × Bool × Int :=
  bif ((orders_bounds e items low high) != 0) then
    (GS.nil, false, (orders_bounds e items low high))
  else
    bif ((orders_open e items low high).2) then
      (((orders_open e items low high).1), true, 0)
    else
      (((orders_open e items low high).1), false, 0)

end Go.VS

namespace Go.VS
open Go Go.Proofs
set_option maxHeartbeats 0
set_option linter.unusedSimpArgs false
set_option linter.unusedVariables false
end Go.VS

namespace Go.VS
open Go Go.Proofs
set_option maxHeartbeats 0
set_option linter.unusedSimpArgs false
set_option linter.unusedVariables false
end Go.VS

namespace Go.VS
open Go Go.Proofs
set_option maxHeartbeats 0
set_option linter.unusedSimpArgs false
set_option linter.unusedVariables false
end Go.VS

namespace Go.VS
open Go Go.Proofs
set_option maxHeartbeats 0
set_option linter.unusedSimpArgs false
set_option linter.unusedVariables false
end Go.VS

namespace Go.VS
open Go Go.Proofs
set_option maxHeartbeats 0
set_option linter.unusedSimpArgs false
set_option linter.unusedVariables false
theorem shown_len {e : S_Estate} {items : GS Int} {s : Int} : (orders_shown e items s).l.length = items.l.length := by
  have key : ∀ (l : List Int) (n : Int) (v : List Int), ∃ m w, orders_shown_3a e s l n v = .x0 m w ∧ w.length = v.length + l.length := by
    intro l
    induction l with
    | nil => intro n v; exact ⟨n, v, rfl, by simp⟩
    | cons x l ih =>
      intro n v
      unfold orders_shown_3a
      obtain ⟨m, w, h1, h2⟩ := ih (w64 (n - (imin n (zn (GS.at e.items x))))) (v ++ [w64 ((w64 (((GS.at e.items x).now.lo) + ((GS.at e.items x).error))) + (imin n (zn (GS.at e.items x))))])
      exact ⟨m, w, h1, by rw [h2]; simp; omega⟩
  unfold orders_shown
  cases items.l with
  | nil => rfl
  | cons x l =>
    unfold orders_shown_3
    dsimp only
    obtain ⟨m, w, h1, h2⟩ := key l (w64 (s - (imin s (zn (GS.at e.items x))))) [w64 ((w64 (((GS.at e.items x).now.lo) + ((GS.at e.items x).error))) + (imin s (zn (GS.at e.items x))))]
    rw [h1]
    simp [GS.some, h2]
    omega
theorem zh {e : S_Estate} {items : GS Int} {low high : Int} : (orders_Open e items low high).1.l.length ≤ items.l.length := by
  have h1 : (orders_open e items low high).1.l.length ≤ items.l.length := by
    unfold orders_open
    simp only [Bool.cond_decide]
    split
    · simp [GS.nil]
    · split
      · simp [GS.nil]
      · split
        · simp [GS.nil]
        · simp [shown_len]
  unfold orders_Open
  cases (orders_bounds e items low high != 0) with
  | true => simp [GS.nil]
  | false => cases (orders_open e items low high).2 <;> exact h1
end Go.VS

namespace Go.VS
open Go Go.Proofs
set_option maxHeartbeats 0
set_option linter.unusedSimpArgs false
set_option linter.unusedVariables false
inductive LR_l_shows_3 where
  | x0 (va3_0 : List Int)
  | x1
instance : Inhabited LR_l_shows_3 := ⟨.x0 default⟩
def l_shows_3a (e : S_Estate) (areas : GS Int) (off : GS Int) : List Int → Nat → (List Int) → LR_l_shows_3
  | [], i3, va3_0 => .x0 va3_0
  | x3 :: rest3, i3, va3_0 =>
    bif decide (((i3 : Nat) : Int) < ((off.l.length : Nat) : Int)) then
      l_shows_3a e areas off rest3 (i3 + 1) (va3_0 ++ [w64 ((GS.at areas x3) + (imin (imax (GS.at off ((i3 : Nat) : Int)) (w64 (0 - ((GS.at e.items x3).error)))) ((GS.at e.items x3).error)))])
    else
      l_shows_3a e areas off rest3 (i3 + 1) (va3_0 ++ [w64 ((GS.at areas x3) + 0)])
def l_shows_3 (e : S_Estate) (areas : GS Int) (off : GS Int) : List Int → Nat → LR_l_shows_3
  | [], i3 => .x1
  | x3 :: rest3, i3 =>
    bif decide (((i3 : Nat) : Int) < ((off.l.length : Nat) : Int)) then
      l_shows_3a e areas off rest3 (i3 + 1) [w64 ((GS.at areas x3) + (imin (imax (GS.at off ((i3 : Nat) : Int)) (w64 (0 - ((GS.at e.items x3).error)))) ((GS.at e.items x3).error)))]
    else
      l_shows_3a e areas off rest3 (i3 + 1) [w64 ((GS.at areas x3) + 0)]
def l_shows (e : S_Estate) (items : GS Int) (areas : GS Int) (off : GS Int) : (GS Int) :=
  match l_shows_3 e areas off items.l 0 with
  | .x0 va3_0 =>
    GS.some va3_0
  | .x1 =>
    GS.nil

theorem zc {e : S_Estate} {items areas off : GS Int} : (l_shows e items areas off).l.length = items.l.length := by
  have key : ∀ (l : List Int) (i : Nat) (v : List Int), ∃ w, l_shows_3a e areas off l i v = .x0 w ∧ w.length = v.length + l.length := by
    intro l
    induction l with
    | nil => intro i v; exact ⟨v, rfl, by simp⟩
    | cons x l ih =>
      intro i v
      unfold l_shows_3a
      cases decide (((i : Nat) : Int) < ((off.l.length : Nat) : Int)) with
      | true => obtain ⟨w, h1, h2⟩ := ih (i + 1) (v ++ [w64 ((areas.at x) + (imin (imax (off.at ((i : Nat) : Int)) (w64 (0 - ((e.items.at x).error)))) ((e.items.at x).error)))]); exact ⟨w, h1, by rw [h2]; simp; omega⟩
      | false => obtain ⟨w, h1, h2⟩ := ih (i + 1) (v ++ [w64 ((areas.at x) + 0)]); exact ⟨w, h1, by rw [h2]; simp; omega⟩
  unfold l_shows
  cases items.l with
  | nil => rfl
  | cons x l =>
    unfold l_shows_3
    dsimp only
    cases decide (((0 : Nat) : Int) < ((off.l.length : Nat) : Int)) with
    | true => obtain ⟨w, h1, h2⟩ := key l (0 + 1) [w64 ((areas.at x) + (imin (imax (off.at ((0 : Nat) : Int)) (w64 (0 - ((e.items.at x).error)))) ((e.items.at x).error)))]; simp only [cond_true, h1, GS.some, h2]; simp; omega
    | false => obtain ⟨w, h1, h2⟩ := key l (0 + 1) [w64 ((areas.at x) + 0)]; simp only [cond_false, h1, GS.some, h2]; simp; omega
end Go.VS

/-
  VS, part V6: rows of slices: what is appended becomes deep at a loop's head. (A text of this claim's own; nothing of it is trusted.)
-/
namespace Go.VS
open Go
structure EncD {α : Type} (f : α → VS.D) : Prop where
  d : ∀ g x, deepEl g (f x) = f x
  i : ∀ g x, deepElI g (f x) = []
section
variable {α : Type} {f : α → VS.D} (h : EncD f)
include h
theorem EncD.mapD (g : Nat → Option Ob) (l : List α) : List.map (deepEl g) (l.map f) = l.map f := by
  rw [List.map_map]; exact List.map_congr_left fun x _ => h.d g x
theorem EncD.catI (g : Nat → Option Ob) (l : List α) : Go.VS.catI (deepElI g) (l.map f) = [] := by
  induction l with
  | nil => rfl
  | cons x l ih => simp only [List.map_cons, Go.VS.catI, ih, h.i]; rfl
theorem EncD.catI_app (g : Nat → Option Ob) (l : List α) (b : List VS.D) : Go.VS.catI (deepElI g) (l.map f ++ b) = Go.VS.catI (deepElI g) b := by
  induction l with
  | nil => rfl
  | cons x l ih => simp only [List.map_cons, List.cons_append, Go.VS.catI, ih, h.i]; rfl
end
theorem encD_GS {α : Type} {f : α → VS.D} {k : Nat} : EncD (GS.D f k) := ⟨fun _ _ => rfl, fun _ _ => rfl⟩
/-- What leads to memory of the call's own, behind a row. -/
theorem app_rowX {α : Type} {f : α → VS.D} {te : Ty} {gO : Nat → Option Ob} {nxt o o2 sz : Nat} {fz : Bool} (EO : EncOK sz f) (l : List α) (x : α) (d : VS.D) (hd : d.okCells = true ∧ d.cells.length = sz) (h1 : gO o = Option.some ⟨l.map f, sz, false⟩) (h2 : gO o2 = Option.some ⟨[d], sz, fz⟩) (h3 : te.size = sz) (h4 : zeroOk te = true) (h5 : 0 < te.size)
    (hb : (l.length + 1) * te.bytes ≤ big ∧ l.length + 1 ≤ big) :
    appendE te gO nxt (.lsl o 0 l.length sz none) (.lsl o2 0 1 sz (Option.some 1)) = Option.some ⟨.lsl nxt 0 (l ++ [x]).length sz none, [(o, none), (nxt, Option.some ⟨l.map f ++ [d], sz, false⟩)], [o, o2], nxt + 1⟩ := by
  have e1 : elemsD gO (.lsl o2 0 1 sz (Option.some 1)) = Option.some ([d], sz, [o2]) := by
    simp [elemsD, h2]
  unfold appendE
  rw [e1]
  simp only [List.isEmpty, Bool.false_eq_true, if_false, h3, decide_true, Bool.true_and, h4, h1]
  have e2 : allOk sz [d] = true := by simp only [allOk, hd.1, hd.2, decide_true, Bool.and_self]
  have e3 : allOk sz (List.map f l) = true := EO.allOk l
  have h5' : 0 < sz := h3 ▸ h5
  have e4 : List.take l.length (List.map f l) = List.map f l := by rw [List.take_of_length_le]; simp
  simp only [e2, h5', decide_true, Bool.and_self, if_true, List.length_map, Nat.zero_add, Nat.le_refl, appLsl, hb.1, hb.2, Bool.not_false, List.length_cons, List.length_nil, e4]
  rw [if_neg (by omega)]
  simp [h3, e3]
/-- Two elements, behind a row. -/
theorem app_row2 {α : Type} {f : α → VS.D} {te : Ty} {gO : Nat → Option Ob} {nxt o o2 sz : Nat} {fz : Bool} (EO : EncOK sz f) (l : List α) (x y : α) (h1 : gO o = Option.some ⟨l.map f, sz, false⟩) (h2 : gO o2 = Option.some ⟨[f x, f y], sz, fz⟩) (h3 : te.size = sz) (h4 : zeroOk te = true) (h5 : 0 < te.size)
    (hb : (l.length + 2) * te.bytes ≤ big ∧ l.length + 2 ≤ big) :
    appendE te gO nxt (.lsl o 0 l.length sz none) (.lsl o2 0 2 sz (Option.some 2)) = Option.some ⟨.lsl nxt 0 (l ++ [x, y]).length sz none, [(o, none), (nxt, Option.some ⟨(l ++ [x, y]).map f, sz, false⟩)], [o, o2], nxt + 1⟩ := by
  have e1 : elemsD gO (.lsl o2 0 2 sz (Option.some 2)) = Option.some ([f x, f y], sz, [o2]) := by
    simp [elemsD, h2]
  unfold appendE
  rw [e1]
  simp only [List.isEmpty, Bool.false_eq_true, if_false, h3, decide_true, Bool.true_and, h4, h1]
  have e2 : allOk sz [f x, f y] = true := by simp only [allOk, (EO.ok x).1, (EO.ok x).2, (EO.ok y).1, (EO.ok y).2, decide_true, Bool.and_self]
  have e3 : allOk sz (List.map f l) = true := EO.allOk l
  have h5' : 0 < sz := h3 ▸ h5
  have e4 : List.take l.length (List.map f l) = List.map f l := by rw [List.take_of_length_le]; simp
  simp only [e2, h5', decide_true, Bool.and_self, if_true, List.length_map, Nat.zero_add, Nat.le_refl, appLsl, hb.1, hb.2, Bool.not_false, List.length_cons, List.length_nil, e4]
  rw [if_neg (by omega)]
  simp [h3, e3]
/-- The one element of a row, by an index that is known to be 0. -/
theorem idx_one {C : Cfg} {nxt : Nat} {t : TypeId} {ty te : Ty} {e : TypeId} {o sz : Nat} {cap : Option Nat} {i : Int} (h1 : C.ty t = Option.some ty) (h2 : ty.kind = .slice e) (h3 : C.ty e = Option.some te) (h4 : te.size = sz) (h5 : i = 0) :
    evIndexAddr C nxt t (.lsl o 0 1 sz cap) (I i) = Option.some ⟨.lref o 0 sz 0, [], [], nxt⟩ := by
  subst h5
  exact idx_row h1 h2 h3 h4 (Int.le_refl 0) (by decide)
theorem dd_I {g : Nat → Option Ob} {n : Int} : deepD g (I n) = I n := rfl
theorem dd_B {g : Nat → Option Ob} {b : Bool} : deepD g (B b) = B b := rfl
theorem di_I {g : Nat → Option Ob} {n : Int} : deepI g (I n) = [] := rfl
theorem di_B {g : Nat → Option Ob} {b : Bool} : deepI g (B b) = [] := rfl
attribute [go_sem] deepSl deepSlI dd_I dd_B di_I di_B dd_val dd_sl dd_ptr dd_lsl di_val di_sl di_ptr di_lsl
end Go.VS

