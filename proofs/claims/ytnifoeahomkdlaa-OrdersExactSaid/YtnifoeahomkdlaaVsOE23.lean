/- Nothing of a statement is proved in this text alone: it is part 3 of the proof's own tools, an evaluator of the code over deep values, its soundness, and what it makes of this seat's functions. Conditions: none beyond the statement's own. -/
import Derived.Test.YtnifoeahomkdlaaVsOE22
set_option linter.unusedSimpArgs false
set_option linter.unusedVariables false
namespace Go.VS
open Go Go.Proofs
set_option maxHeartbeats 0
set_option linter.unusedSimpArgs false
set_option linter.unusedVariables false
theorem closed_len {e : S_Estate} (h : (za e).2 = 0) : (za e).1.items.l.length = e.items.l.length := by
  have key : ∀ (l : List S_Item) (i : Nat) (v : List S_Item), ∃ w, orders_Closed_6 e l i v = .x0 w ∧ w.length = v.length := by
    intro l
    induction l with
    | nil => intro i v; exact ⟨v, rfl, rfl⟩
    | cons x l ih => intro i v; obtain ⟨w, h1, h2⟩ := ih (i + 1) (v.set i (⟨(orders_part e ((i : Nat) : Int)), (v.getD i default).cost, (v.getD i default).error⟩ : S_Item)); exact ⟨w, h1, by rw [h2, List.length_set]⟩
  unfold za at h ⊢
  cases h1 : ((z6 e).2 != 0) with
  | true => rw [h1] at h; simp only [cond_true] at h; rw [bne_iff_ne] at h1; omega
  | false =>
    obtain ⟨w, h2, h3⟩ := key e.items.l 0 e.items.l
    simp only [cond_false, h2]
    exact h3

noncomputable def lp58_3 : Code := subC [1, 1, 0, 1, 0, 0] (bodyC Try.f58)
inductive LR_r_All_3 where
  | x0 (v3_0 : Int) (v3_1 : Int)
def r_All_3 : List S_Item → Int → Int → LR_r_All_3
  | [], v3_0, v3_1 => .x0 v3_0 v3_1
  | x3 :: rest3, v3_0, v3_1 =>
    r_All_3 rest3 (w64 (v3_0 + x3.now.lo)) (w64 (v3_1 + x3.now.hi))
def lr_r_All_3 (e : S_Estate) : LR_r_All_3 → Exit × St
  | .x0 v3_0 v3_1 => ((.exit 0), ⟨36, [(10, B false), (9, I ((e.items.l.length : Nat) : Int)), (8, .sl e.items.nl (e.items.l.map S_Item.D) (zsl e.items.nl 4) none), (7, .lref 0 0 3 0), (6, I ((e.items.l.length : Nat) : Int)), (1, .lref 0 0 3 0), (2, .lref 1 0 2 0), (3, .lref 2 0 2 0), (4, I ((e.items.l.length : Nat) : Int))], [(0, ⟨[.agg [.sl e.items.nl (e.items.l.map S_Item.D) (zsl e.items.nl 4) none, I e.whole.lo, I e.whole.hi]], 3, false⟩), (1, ⟨[.agg [I 0, I 0]], 2, false⟩), (2, ⟨[.agg [I v3_0, I v3_1]], 2, false⟩)], 3, 0⟩)
theorem lp_r_All_3 (e : S_Estate) : ∀ (rest3 : List S_Item) (i3 : Nat) (v3_0 : Int) (v3_1 : Int) (hd3 : e.items.l.drop i3 = rest3) (hi3 : i3 ≤ e.items.l.length) (hL3 : e.items.l.length ≤ 9223372036854775807), (lim cfg).loop 58 lp58_3 ⟨36, [(1, .lref 0 0 3 0), (2, .lref 1 0 2 0), (3, .lref 2 0 2 0), (4, I ((i3 : Nat) : Int))], [(0, ⟨[.agg [.sl e.items.nl (e.items.l.map S_Item.D) (zsl e.items.nl 4) none, I e.whole.lo, I e.whole.hi]], 3, false⟩), (1, ⟨[.agg [I 0, I 0]], 2, false⟩), (2, ⟨[.agg [I v3_0, I v3_1]], 2, false⟩)], 3, 0⟩ = some (lr_r_All_3 e (r_All_3 rest3 v3_0 v3_1)) := by
  intro rest3
  induction rest3 with
  | nil =>
    intro i3 v3_0 v3_1 hd3 hi3 hL3
    unfold r_All_3
    obtain rfl : i3 = e.items.l.length := nil_eq hd3 hi3
    exact zF [.rw 9 (I ((e.items.l.length : Nat) : Int)), .dec false] (And.intro (lt_no hd3) (And.intro (ze S_Item.D e.items) trivial)) (by kernel_rfl)
  | cons x3 rest3 ih =>
    intro i3 v3_0 v3_1 hd3 hi3 hL3
    have hlt3 := lt_nat hd3
    unfold r_All_3
    exact po_turn [.rw 9 (I ((e.items.l.length : Nat) : Int)), .dec true, .el (.agg [I x3.now.lo, I x3.now.hi, I x3.cost, I x3.error]), .el (.agg [I x3.now.lo, I x3.now.hi, I x3.cost, I x3.error]), .rw 12 (I ((i3 + 1 : Nat) : Int))] (And.intro (inc_rw (i := i3) (by have := lt_nat hd3; omega)) (And.intro (el_at (s := e.items) (f := S_Item.D) (k := 4) hd3) (And.intro (el_at (s := e.items) (f := S_Item.D) (k := 4) hd3) (And.intro (lt_at hd3) (And.intro (ze S_Item.D e.items) trivial))))) (ih (i3 + 1) (w64 (v3_0 + x3.now.lo)) (w64 (v3_1 + x3.now.hi)) (drop_next hd3) (lt_nat hd3) (by first | assumption | omega | (simp only [z8, GS.some_l, List.length_set, List.length_append, List.length_cons, List.length_nil] at * <;> first | assumption | omega) | (simp only [z9] at * <;> omega) | (simp at * <;> omega))) (by kernel_rfl)

def r_All (e : S_Estate) : S_Span :=
  match r_All_3 e.items.l 0 0 with
  | .x0 v3_0 v3_1 =>
    (⟨v3_0, v3_1⟩ : S_Span)

def sd9 (e : S_Estate) (v3_0 : Int) (v3_1 : Int) : St := ⟨36, [(10, B false), (9, I ((e.items.l.length : Nat) : Int)), (8, .sl e.items.nl (e.items.l.map S_Item.D) (zsl e.items.nl 4) none), (7, .lref 0 0 3 0), (6, I ((e.items.l.length : Nat) : Int)), (1, .lref 0 0 3 0), (2, .lref 1 0 2 0), (3, .lref 2 0 2 0), (4, I ((e.items.l.length : Nat) : Int))], [(0, ⟨[.agg [.sl e.items.nl (e.items.l.map S_Item.D) (zsl e.items.nl 4) none, I e.whole.lo, I e.whole.hi]], 3, false⟩), (1, ⟨[.agg [I 0, I 0]], 2, false⟩), (2, ⟨[.agg [I v3_0, I v3_1]], 2, false⟩)], 3, 0⟩

theorem T_r_All (e : S_Estate) (hL_e_items : e.items.l.length ≤ 9223372036854775807) : (lim cfg).pure 58 [S_Estate.D e] = some (S_Span.D (r_All e)) := by
  unfold r_All
  cases h1 : r_All_3 e.items.l 0 0 with
  | x0 v3_0 v3_1 =>
    try dsimp only
    exact zk [.loop (.exit 0) (sd9 e v3_0 v3_1)] (And.intro (po_lr (q := lr_r_All_3 e) (lp_r_All_3 e e.items.l 0 0 0 (List.drop_zero) (Nat.zero_le _) (by first | assumption | omega | (simp only [z8, GS.some_l, List.length_set, List.length_append, List.length_cons, List.length_nil] at * <;> first | assumption | omega) | (simp only [z9] at * <;> omega) | (simp at * <;> omega))) h1) trivial) (by kernel_rfl)

noncomputable def lp19_4 : Code := subC [1, 1, 0, 1, 0, 0] (bodyC Try.f19)
inductive LR_r_Valid_4 where
  | x0
  | x1 (i4 : Nat) (x4 : S_Item)
  | x2 (i4 : Nat) (x4 : S_Item)
  | x3 (i4 : Nat) (x4 : S_Item)
  | x4 (i4 : Nat) (x4 : S_Item)
  | x5 (i4 : Nat) (x4 : S_Item)
  | x6 (i4 : Nat) (x4 : S_Item)
  | x7 (i4 : Nat) (x4 : S_Item)
def r_Valid_4 : List S_Item → Nat → LR_r_Valid_4
  | [], i4 => .x0
  | x4 :: rest4, i4 =>
    bif decide (x4.now.lo < 0) then
      .x1 i4 x4
    else
      bif decide (x4.now.lo > x4.now.hi) then
        .x2 i4 x4
      else
        bif decide (x4.now.hi > 1073741824) then
          .x3 i4 x4
        else
          bif decide (x4.cost < 0) then
            .x4 i4 x4
          else
            bif decide (x4.cost > 10000) then
              .x5 i4 x4
            else
              bif decide (x4.error < 0) then
                .x6 i4 x4
              else
                bif decide (x4.error > 1048576) then
                  .x7 i4 x4
                else
                  r_Valid_4 rest4 (i4 + 1)
def lr_r_Valid_4 (e : S_Estate) : LR_r_Valid_4 → Exit × St
  | .x0 => ((.exit 0), ⟨104, [(41, B false), (40, I ((e.items.l.length : Nat) : Int)), (39, .sl e.items.nl (e.items.l.map S_Item.D) (zsl e.items.nl 4) none), (38, .lref 0 0 3 0), (37, I ((e.items.l.length : Nat) : Int)), (1, .lref 0 0 3 0), (3, I ((e.items.l.length : Nat) : Int))], [(0, ⟨[.agg [.sl e.items.nl (e.items.l.map S_Item.D) (zsl e.items.nl 4) none, I e.whole.lo, I e.whole.hi]], 3, false⟩)], 1, 0⟩)
  | .x1 i4 x4 => (.ret, ⟨104, [(2, B false), (87, B true), (86, .tup []), (85, .tup []), (84, .tup []), (83, B true), (82, B true), (81, .tup []), (80, .tup []), (79, .tup []), (78, B true), (77, B true), (76, .tup []), (75, .tup []), (74, .tup []), (73, B true), (72, B true), (71, .tup []), (70, .tup []), (69, .tup []), (68, B true), (67, B true), (66, .tup []), (65, .tup []), (64, .tup []), (63, .tup []), (62, B true), (61, B true), (60, .tup []), (59, .tup []), (58, .tup []), (57, .tup []), (56, .tup []), (55, .tup []), (54, .tup []), (53, B true), (52, B true), (51, I x4.now.lo), (50, .lref 1 0 4 0), (49, .lref 1 0 4 0), (4, .lref 1 0 4 0), (48, .agg [I x4.now.lo, I x4.now.hi, I x4.cost, I x4.error]), (47, .ptr (.agg [I x4.now.lo, I x4.now.hi, I x4.cost, I x4.error])), (46, I ((i4 : Nat) : Int)), (45, .sl e.items.nl (e.items.l.map S_Item.D) (zsl e.items.nl 4) none), (44, .lref 0 0 3 0), (41, B true), (40, I ((e.items.l.length : Nat) : Int)), (39, .sl e.items.nl (e.items.l.map S_Item.D) (zsl e.items.nl 4) none), (38, .lref 0 0 3 0), (37, I ((i4 : Nat) : Int)), (1, .lref 0 0 3 0), (3, I ((i4 : Nat) : Int))], [(0, ⟨[.agg [.sl e.items.nl (e.items.l.map S_Item.D) (zsl e.items.nl 4) none, I e.whole.lo, I e.whole.hi]], 3, false⟩), (1, ⟨[.agg [I x4.now.lo, I x4.now.hi, I x4.cost, I x4.error]], 4, false⟩)], 2, 0⟩)
  | .x2 i4 x4 => (.ret, ⟨104, [(2, B false), (87, B true), (86, .tup []), (85, .tup []), (84, .tup []), (83, B true), (82, B true), (81, .tup []), (80, .tup []), (79, .tup []), (78, B true), (77, B true), (76, .tup []), (75, .tup []), (74, .tup []), (73, B true), (72, B true), (71, .tup []), (70, .tup []), (69, .tup []), (68, B true), (67, B true), (66, .tup []), (65, .tup []), (64, .tup []), (63, .tup []), (62, B true), (61, B true), (60, B true), (59, I x4.now.hi), (58, .lref 1 0 4 1), (57, .lref 1 0 4 0), (56, I x4.now.lo), (55, .lref 1 0 4 0), (54, .lref 1 0 4 0), (53, B false), (52, B false), (51, I x4.now.lo), (50, .lref 1 0 4 0), (49, .lref 1 0 4 0), (4, .lref 1 0 4 0), (48, .agg [I x4.now.lo, I x4.now.hi, I x4.cost, I x4.error]), (47, .ptr (.agg [I x4.now.lo, I x4.now.hi, I x4.cost, I x4.error])), (46, I ((i4 : Nat) : Int)), (45, .sl e.items.nl (e.items.l.map S_Item.D) (zsl e.items.nl 4) none), (44, .lref 0 0 3 0), (41, B true), (40, I ((e.items.l.length : Nat) : Int)), (39, .sl e.items.nl (e.items.l.map S_Item.D) (zsl e.items.nl 4) none), (38, .lref 0 0 3 0), (37, I ((i4 : Nat) : Int)), (1, .lref 0 0 3 0), (3, I ((i4 : Nat) : Int))], [(0, ⟨[.agg [.sl e.items.nl (e.items.l.map S_Item.D) (zsl e.items.nl 4) none, I e.whole.lo, I e.whole.hi]], 3, false⟩), (1, ⟨[.agg [I x4.now.lo, I x4.now.hi, I x4.cost, I x4.error]], 4, false⟩)], 2, 0⟩)
  | .x3 i4 x4 => (.ret, ⟨104, [(2, B false), (87, B true), (86, .tup []), (85, .tup []), (84, .tup []), (83, B true), (82, B true), (81, .tup []), (80, .tup []), (79, .tup []), (78, B true), (77, B true), (76, .tup []), (75, .tup []), (74, .tup []), (73, B true), (72, B true), (71, .tup []), (70, .tup []), (69, .tup []), (68, B true), (67, B true), (66, B true), (65, I x4.now.hi), (64, .lref 1 0 4 1), (63, .lref 1 0 4 0), (62, B false), (61, B false), (60, B false), (59, I x4.now.hi), (58, .lref 1 0 4 1), (57, .lref 1 0 4 0), (56, I x4.now.lo), (55, .lref 1 0 4 0), (54, .lref 1 0 4 0), (53, B false), (52, B false), (51, I x4.now.lo), (50, .lref 1 0 4 0), (49, .lref 1 0 4 0), (4, .lref 1 0 4 0), (48, .agg [I x4.now.lo, I x4.now.hi, I x4.cost, I x4.error]), (47, .ptr (.agg [I x4.now.lo, I x4.now.hi, I x4.cost, I x4.error])), (46, I ((i4 : Nat) : Int)), (45, .sl e.items.nl (e.items.l.map S_Item.D) (zsl e.items.nl 4) none), (44, .lref 0 0 3 0), (41, B true), (40, I ((e.items.l.length : Nat) : Int)), (39, .sl e.items.nl (e.items.l.map S_Item.D) (zsl e.items.nl 4) none), (38, .lref 0 0 3 0), (37, I ((i4 : Nat) : Int)), (1, .lref 0 0 3 0), (3, I ((i4 : Nat) : Int))], [(0, ⟨[.agg [.sl e.items.nl (e.items.l.map S_Item.D) (zsl e.items.nl 4) none, I e.whole.lo, I e.whole.hi]], 3, false⟩), (1, ⟨[.agg [I x4.now.lo, I x4.now.hi, I x4.cost, I x4.error]], 4, false⟩)], 2, 0⟩)
  | .x4 i4 x4 => (.ret, ⟨104, [(2, B false), (87, B true), (86, .tup []), (85, .tup []), (84, .tup []), (83, B true), (82, B true), (81, .tup []), (80, .tup []), (79, .tup []), (78, B true), (77, B true), (76, .tup []), (75, .tup []), (74, .tup []), (73, B true), (72, B true), (71, B true), (70, I x4.cost), (69, .lref 1 0 4 2), (68, B false), (67, B false), (66, B false), (65, I x4.now.hi), (64, .lref 1 0 4 1), (63, .lref 1 0 4 0), (62, B false), (61, B false), (60, B false), (59, I x4.now.hi), (58, .lref 1 0 4 1), (57, .lref 1 0 4 0), (56, I x4.now.lo), (55, .lref 1 0 4 0), (54, .lref 1 0 4 0), (53, B false), (52, B false), (51, I x4.now.lo), (50, .lref 1 0 4 0), (49, .lref 1 0 4 0), (4, .lref 1 0 4 0), (48, .agg [I x4.now.lo, I x4.now.hi, I x4.cost, I x4.error]), (47, .ptr (.agg [I x4.now.lo, I x4.now.hi, I x4.cost, I x4.error])), (46, I ((i4 : Nat) : Int)), (45, .sl e.items.nl (e.items.l.map S_Item.D) (zsl e.items.nl 4) none), (44, .lref 0 0 3 0), (41, B true), (40, I ((e.items.l.length : Nat) : Int)), (39, .sl e.items.nl (e.items.l.map S_Item.D) (zsl e.items.nl 4) none), (38, .lref 0 0 3 0), (37, I ((i4 : Nat) : Int)), (1, .lref 0 0 3 0), (3, I ((i4 : Nat) : Int))], [(0, ⟨[.agg [.sl e.items.nl (e.items.l.map S_Item.D) (zsl e.items.nl 4) none, I e.whole.lo, I e.whole.hi]], 3, false⟩), (1, ⟨[.agg [I x4.now.lo, I x4.now.hi, I x4.cost, I x4.error]], 4, false⟩)], 2, 0⟩)
  | .x5 i4 x4 => (.ret, ⟨104, [(2, B false), (87, B true), (86, .tup []), (85, .tup []), (84, .tup []), (83, B true), (82, B true), (81, .tup []), (80, .tup []), (79, .tup []), (78, B true), (77, B true), (76, B true), (75, I x4.cost), (74, .lref 1 0 4 2), (73, B false), (72, B false), (71, B false), (70, I x4.cost), (69, .lref 1 0 4 2), (68, B false), (67, B false), (66, B false), (65, I x4.now.hi), (64, .lref 1 0 4 1), (63, .lref 1 0 4 0), (62, B false), (61, B false), (60, B false), (59, I x4.now.hi), (58, .lref 1 0 4 1), (57, .lref 1 0 4 0), (56, I x4.now.lo), (55, .lref 1 0 4 0), (54, .lref 1 0 4 0), (53, B false), (52, B false), (51, I x4.now.lo), (50, .lref 1 0 4 0), (49, .lref 1 0 4 0), (4, .lref 1 0 4 0), (48, .agg [I x4.now.lo, I x4.now.hi, I x4.cost, I x4.error]), (47, .ptr (.agg [I x4.now.lo, I x4.now.hi, I x4.cost, I x4.error])), (46, I ((i4 : Nat) : Int)), (45, .sl e.items.nl (e.items.l.map S_Item.D) (zsl e.items.nl 4) none), (44, .lref 0 0 3 0), (41, B true), (40, I ((e.items.l.length : Nat) : Int)), (39, .sl e.items.nl (e.items.l.map S_Item.D) (zsl e.items.nl 4) none), (38, .lref 0 0 3 0), (37, I ((i4 : Nat) : Int)), (1, .lref 0 0 3 0), (3, I ((i4 : Nat) : Int))], [(0, ⟨[.agg [.sl e.items.nl (e.items.l.map S_Item.D) (zsl e.items.nl 4) none, I e.whole.lo, I e.whole.hi]], 3, false⟩), (1, ⟨[.agg [I x4.now.lo, I x4.now.hi, I x4.cost, I x4.error]], 4, false⟩)], 2, 0⟩)
  | .x6 i4 x4 => (.ret, ⟨104, [(2, B false), (87, B true), (86, .tup []), (85, .tup []), (84, .tup []), (83, B true), (82, B true), (81, B true), (80, I x4.error), (79, .lref 1 0 4 3), (78, B false), (77, B false), (76, B false), (75, I x4.cost), (74, .lref 1 0 4 2), (73, B false), (72, B false), (71, B false), (70, I x4.cost), (69, .lref 1 0 4 2), (68, B false), (67, B false), (66, B false), (65, I x4.now.hi), (64, .lref 1 0 4 1), (63, .lref 1 0 4 0), (62, B false), (61, B false), (60, B false), (59, I x4.now.hi), (58, .lref 1 0 4 1), (57, .lref 1 0 4 0), (56, I x4.now.lo), (55, .lref 1 0 4 0), (54, .lref 1 0 4 0), (53, B false), (52, B false), (51, I x4.now.lo), (50, .lref 1 0 4 0), (49, .lref 1 0 4 0), (4, .lref 1 0 4 0), (48, .agg [I x4.now.lo, I x4.now.hi, I x4.cost, I x4.error]), (47, .ptr (.agg [I x4.now.lo, I x4.now.hi, I x4.cost, I x4.error])), (46, I ((i4 : Nat) : Int)), (45, .sl e.items.nl (e.items.l.map S_Item.D) (zsl e.items.nl 4) none), (44, .lref 0 0 3 0), (41, B true), (40, I ((e.items.l.length : Nat) : Int)), (39, .sl e.items.nl (e.items.l.map S_Item.D) (zsl e.items.nl 4) none), (38, .lref 0 0 3 0), (37, I ((i4 : Nat) : Int)), (1, .lref 0 0 3 0), (3, I ((i4 : Nat) : Int))], [(0, ⟨[.agg [.sl e.items.nl (e.items.l.map S_Item.D) (zsl e.items.nl 4) none, I e.whole.lo, I e.whole.hi]], 3, false⟩), (1, ⟨[.agg [I x4.now.lo, I x4.now.hi, I x4.cost, I x4.error]], 4, false⟩)], 2, 0⟩)
  | .x7 i4 x4 => (.ret, ⟨104, [(2, B false), (87, B true), (86, B true), (85, I x4.error), (84, .lref 1 0 4 3), (83, B false), (82, B false), (81, B false), (80, I x4.error), (79, .lref 1 0 4 3), (78, B false), (77, B false), (76, B false), (75, I x4.cost), (74, .lref 1 0 4 2), (73, B false), (72, B false), (71, B false), (70, I x4.cost), (69, .lref 1 0 4 2), (68, B false), (67, B false), (66, B false), (65, I x4.now.hi), (64, .lref 1 0 4 1), (63, .lref 1 0 4 0), (62, B false), (61, B false), (60, B false), (59, I x4.now.hi), (58, .lref 1 0 4 1), (57, .lref 1 0 4 0), (56, I x4.now.lo), (55, .lref 1 0 4 0), (54, .lref 1 0 4 0), (53, B false), (52, B false), (51, I x4.now.lo), (50, .lref 1 0 4 0), (49, .lref 1 0 4 0), (4, .lref 1 0 4 0), (48, .agg [I x4.now.lo, I x4.now.hi, I x4.cost, I x4.error]), (47, .ptr (.agg [I x4.now.lo, I x4.now.hi, I x4.cost, I x4.error])), (46, I ((i4 : Nat) : Int)), (45, .sl e.items.nl (e.items.l.map S_Item.D) (zsl e.items.nl 4) none), (44, .lref 0 0 3 0), (41, B true), (40, I ((e.items.l.length : Nat) : Int)), (39, .sl e.items.nl (e.items.l.map S_Item.D) (zsl e.items.nl 4) none), (38, .lref 0 0 3 0), (37, I ((i4 : Nat) : Int)), (1, .lref 0 0 3 0), (3, I ((i4 : Nat) : Int))], [(0, ⟨[.agg [.sl e.items.nl (e.items.l.map S_Item.D) (zsl e.items.nl 4) none, I e.whole.lo, I e.whole.hi]], 3, false⟩), (1, ⟨[.agg [I x4.now.lo, I x4.now.hi, I x4.cost, I x4.error]], 4, false⟩)], 2, 0⟩)
def r_Valid_4_l_o1 (e : S_Estate) (x4 : S_Item) : List Ora := [.rw 40 (I ((e.items.l.length : Nat) : Int)), .dec true, .el (.agg [I x4.now.lo, I x4.now.hi, I x4.cost, I x4.error]), .dec false]
theorem lp_r_Valid_4 (e : S_Estate) : ∀ (rest4 : List S_Item) (i4 : Nat) (hd4 : e.items.l.drop i4 = rest4) (hi4 : i4 ≤ e.items.l.length) (hL4 : e.items.l.length ≤ 9223372036854775807), (lim cfg).loop 19 lp19_4 ⟨104, [(1, .lref 0 0 3 0), (3, I ((i4 : Nat) : Int))], [(0, ⟨[.agg [.sl e.items.nl (e.items.l.map S_Item.D) (zsl e.items.nl 4) none, I e.whole.lo, I e.whole.hi]], 3, false⟩)], 1, 0⟩ = some (lr_r_Valid_4 e (r_Valid_4 rest4 i4)) := by
  intro rest4
  induction rest4 with
  | nil =>
    intro i4 hd4 hi4 hL4
    unfold r_Valid_4
    obtain rfl : i4 = e.items.l.length := nil_eq hd4 hi4
    exact zF [.rw 40 (I ((e.items.l.length : Nat) : Int)), .dec false] (And.intro (lt_no hd4) (And.intro (ze S_Item.D e.items) trivial)) (by kernel_rfl)
  | cons x4 rest4 ih =>
    intro i4 hd4 hi4 hL4
    have hlt4 := lt_nat hd4
    unfold r_Valid_4
    have p1 := (el_at (s := e.items) (f := S_Item.D) (k := 4) hd4)
    cases h13 : decide (x4.now.lo < 0) with
    | true =>
      have g13 := of_decide_eq_true h13
      exact zF [.rw 40 (I ((e.items.l.length : Nat) : Int)), .dec true, .el (.agg [I x4.now.lo, I x4.now.hi, I x4.cost, I x4.error]), .dec true] (And.intro h13 (And.intro p1 (And.intro (lt_at hd4) (And.intro (ze S_Item.D e.items) trivial)))) (by kernel_rfl)
    | false =>
      have g13 := of_decide_eq_false h13
      cases h14 : decide (x4.now.lo > x4.now.hi) with
      | true =>
        have g14 := of_decide_eq_true h14
        exact zF ((r_Valid_4_l_o1 e x4) ++ [.dec true]) (And.intro h14 (And.intro h13 (And.intro p1 (And.intro (lt_at hd4) (And.intro (ze S_Item.D e.items) trivial))))) (by kernel_rfl)
      | false =>
        have g14 := of_decide_eq_false h14
        cases h15 : decide (x4.now.hi > 1073741824) with
        | true =>
          have g15 := of_decide_eq_true h15
          exact zF ((r_Valid_4_l_o1 e x4) ++ [.dec false, .dec true]) (And.intro h15 (And.intro h14 (And.intro h13 (And.intro p1 (And.intro (lt_at hd4) (And.intro (ze S_Item.D e.items) trivial)))))) (by kernel_rfl)
        | false =>
          have g15 := of_decide_eq_false h15
          cases h16 : decide (x4.cost < 0) with
          | true =>
            have g16 := of_decide_eq_true h16
            exact zF ((r_Valid_4_l_o1 e x4) ++ [.dec false, .dec false, .dec true]) (And.intro h16 (And.intro h15 (And.intro h14 (And.intro h13 (And.intro p1 (And.intro (lt_at hd4) (And.intro (ze S_Item.D e.items) trivial))))))) (by kernel_rfl)
          | false =>
            have g16 := of_decide_eq_false h16
            cases h17 : decide (x4.cost > 10000) with
            | true =>
              have g17 := of_decide_eq_true h17
              exact zF ((r_Valid_4_l_o1 e x4) ++ [.dec false, .dec false, .dec false, .dec true]) (And.intro h17 (And.intro h16 (And.intro h15 (And.intro h14 (And.intro h13 (And.intro p1 (And.intro (lt_at hd4) (And.intro (ze S_Item.D e.items) trivial)))))))) (by kernel_rfl)
            | false =>
              have g17 := of_decide_eq_false h17
              cases h18 : decide (x4.error < 0) with
              | true =>
                have g18 := of_decide_eq_true h18
                exact zF ((r_Valid_4_l_o1 e x4) ++ [.dec false, .dec false, .dec false, .dec false, .dec true]) (And.intro h18 (And.intro h17 (And.intro h16 (And.intro h15 (And.intro h14 (And.intro h13 (And.intro p1 (And.intro (lt_at hd4) (And.intro (ze S_Item.D e.items) trivial))))))))) (by kernel_rfl)
              | false =>
                have g18 := of_decide_eq_false h18
                cases h19 : decide (x4.error > 1048576) with
                | true =>
                  have g19 := of_decide_eq_true h19
                  exact zF ((r_Valid_4_l_o1 e x4) ++ [.dec false, .dec false, .dec false, .dec false, .dec false, .dec true]) (And.intro h19 (And.intro h18 (And.intro h17 (And.intro h16 (And.intro h15 (And.intro h14 (And.intro h13 (And.intro p1 (And.intro (lt_at hd4) (And.intro (ze S_Item.D e.items) trivial)))))))))) (by kernel_rfl)
                | false =>
                  have g19 := of_decide_eq_false h19
                  exact po_turn ((r_Valid_4_l_o1 e x4) ++ [.dec false, .dec false, .dec false, .dec false, .dec false, .dec false, .rw 43 (I ((i4 + 1 : Nat) : Int))]) (And.intro (inc_rw (i := i4) (by have := lt_nat hd4; omega)) (And.intro h19 (And.intro h18 (And.intro h17 (And.intro h16 (And.intro h15 (And.intro h14 (And.intro h13 (And.intro p1 (And.intro (lt_at hd4) (And.intro (ze S_Item.D e.items) trivial))))))))))) (ih (i4 + 1) (drop_next hd4) (lt_nat hd4) (by first | assumption | omega | (simp only [z8, GS.some_l, List.length_set, List.length_append, List.length_cons, List.length_nil] at * <;> first | assumption | omega) | (simp only [z9] at * <;> omega) | (simp at * <;> omega))) (by kernel_rfl)

def r_Valid (e : S_Estate) : Bool :=
  bif decide (((e.items.l.length : Nat) : Int) < 1) then
    false
  else
    bif decide (((e.items.l.length : Nat) : Int) > 12) then
      false
    else
      bif decide (e.whole.lo < 0) then
        false
      else
        bif decide (e.whole.lo > e.whole.hi) then
          false
        else
          bif decide (e.whole.hi > 17179869184) then
            false
          else
            match r_Valid_4 e.items.l 0 with
            | .x0 =>
              bif decide (((r_All e).lo) ≤ e.whole.hi) then
                bif decide (((r_All e).hi) ≥ e.whole.lo) then
                  true
                else
                  false
              else
                false
            | .x1 i4 x4 =>
              false
            | .x2 i4 x4 =>
              false
            | .x3 i4 x4 =>
              false
            | .x4 i4 x4 =>
              false
            | .x5 i4 x4 =>
              false
            | .x6 i4 x4 =>
              false
            | .x7 i4 x4 =>
              false

def r_Valid_o1 (e : S_Estate) : List Ora := [.rw 8 (I ((e.items.l.length : Nat) : Int)), .dec false, .rw 13 (I ((e.items.l.length : Nat) : Int)), .dec false, .dec false]

def sd10 (e : S_Estate) : St := ⟨104, [(41, B false), (40, I ((e.items.l.length : Nat) : Int)), (39, .sl e.items.nl (e.items.l.map S_Item.D) (zsl e.items.nl 4) none), (38, .lref 0 0 3 0), (37, I ((e.items.l.length : Nat) : Int)), (1, .lref 0 0 3 0), (3, I ((e.items.l.length : Nat) : Int))], [(0, ⟨[.agg [.sl e.items.nl (e.items.l.map S_Item.D) (zsl e.items.nl 4) none, I e.whole.lo, I e.whole.hi]], 3, false⟩)], 1, 0⟩

def sd11 (e : S_Estate) (i4 : Nat) (x4 : S_Item) : St := ⟨104, [(2, B false), (87, B true), (86, .tup []), (85, .tup []), (84, .tup []), (83, B true), (82, B true), (81, .tup []), (80, .tup []), (79, .tup []), (78, B true), (77, B true), (76, .tup []), (75, .tup []), (74, .tup []), (73, B true), (72, B true), (71, .tup []), (70, .tup []), (69, .tup []), (68, B true), (67, B true), (66, .tup []), (65, .tup []), (64, .tup []), (63, .tup []), (62, B true), (61, B true), (60, .tup []), (59, .tup []), (58, .tup []), (57, .tup []), (56, .tup []), (55, .tup []), (54, .tup []), (53, B true), (52, B true), (51, I x4.now.lo), (50, .lref 1 0 4 0), (49, .lref 1 0 4 0), (4, .lref 1 0 4 0), (48, .agg [I x4.now.lo, I x4.now.hi, I x4.cost, I x4.error]), (47, .ptr (.agg [I x4.now.lo, I x4.now.hi, I x4.cost, I x4.error])), (46, I ((i4 : Nat) : Int)), (45, .sl e.items.nl (e.items.l.map S_Item.D) (zsl e.items.nl 4) none), (44, .lref 0 0 3 0), (41, B true), (40, I ((e.items.l.length : Nat) : Int)), (39, .sl e.items.nl (e.items.l.map S_Item.D) (zsl e.items.nl 4) none), (38, .lref 0 0 3 0), (37, I ((i4 : Nat) : Int)), (1, .lref 0 0 3 0), (3, I ((i4 : Nat) : Int))], [(0, ⟨[.agg [.sl e.items.nl (e.items.l.map S_Item.D) (zsl e.items.nl 4) none, I e.whole.lo, I e.whole.hi]], 3, false⟩), (1, ⟨[.agg [I x4.now.lo, I x4.now.hi, I x4.cost, I x4.error]], 4, false⟩)], 2, 0⟩

def sd12 (e : S_Estate) (i4 : Nat) (x4 : S_Item) : St := ⟨104, [(2, B false), (87, B true), (86, .tup []), (85, .tup []), (84, .tup []), (83, B true), (82, B true), (81, .tup []), (80, .tup []), (79, .tup []), (78, B true), (77, B true), (76, .tup []), (75, .tup []), (74, .tup []), (73, B true), (72, B true), (71, .tup []), (70, .tup []), (69, .tup []), (68, B true), (67, B true), (66, .tup []), (65, .tup []), (64, .tup []), (63, .tup []), (62, B true), (61, B true), (60, B true), (59, I x4.now.hi), (58, .lref 1 0 4 1), (57, .lref 1 0 4 0), (56, I x4.now.lo), (55, .lref 1 0 4 0), (54, .lref 1 0 4 0), (53, B false), (52, B false), (51, I x4.now.lo), (50, .lref 1 0 4 0), (49, .lref 1 0 4 0), (4, .lref 1 0 4 0), (48, .agg [I x4.now.lo, I x4.now.hi, I x4.cost, I x4.error]), (47, .ptr (.agg [I x4.now.lo, I x4.now.hi, I x4.cost, I x4.error])), (46, I ((i4 : Nat) : Int)), (45, .sl e.items.nl (e.items.l.map S_Item.D) (zsl e.items.nl 4) none), (44, .lref 0 0 3 0), (41, B true), (40, I ((e.items.l.length : Nat) : Int)), (39, .sl e.items.nl (e.items.l.map S_Item.D) (zsl e.items.nl 4) none), (38, .lref 0 0 3 0), (37, I ((i4 : Nat) : Int)), (1, .lref 0 0 3 0), (3, I ((i4 : Nat) : Int))], [(0, ⟨[.agg [.sl e.items.nl (e.items.l.map S_Item.D) (zsl e.items.nl 4) none, I e.whole.lo, I e.whole.hi]], 3, false⟩), (1, ⟨[.agg [I x4.now.lo, I x4.now.hi, I x4.cost, I x4.error]], 4, false⟩)], 2, 0⟩

def sd13 (e : S_Estate) (i4 : Nat) (x4 : S_Item) : St := ⟨104, [(2, B false), (87, B true), (86, .tup []), (85, .tup []), (84, .tup []), (83, B true), (82, B true), (81, .tup []), (80, .tup []), (79, .tup []), (78, B true), (77, B true), (76, .tup []), (75, .tup []), (74, .tup []), (73, B true), (72, B true), (71, .tup []), (70, .tup []), (69, .tup []), (68, B true), (67, B true), (66, B true), (65, I x4.now.hi), (64, .lref 1 0 4 1), (63, .lref 1 0 4 0), (62, B false), (61, B false), (60, B false), (59, I x4.now.hi), (58, .lref 1 0 4 1), (57, .lref 1 0 4 0), (56, I x4.now.lo), (55, .lref 1 0 4 0), (54, .lref 1 0 4 0), (53, B false), (52, B false), (51, I x4.now.lo), (50, .lref 1 0 4 0), (49, .lref 1 0 4 0), (4, .lref 1 0 4 0), (48, .agg [I x4.now.lo, I x4.now.hi, I x4.cost, I x4.error]), (47, .ptr (.agg [I x4.now.lo, I x4.now.hi, I x4.cost, I x4.error])), (46, I ((i4 : Nat) : Int)), (45, .sl e.items.nl (e.items.l.map S_Item.D) (zsl e.items.nl 4) none), (44, .lref 0 0 3 0), (41, B true), (40, I ((e.items.l.length : Nat) : Int)), (39, .sl e.items.nl (e.items.l.map S_Item.D) (zsl e.items.nl 4) none), (38, .lref 0 0 3 0), (37, I ((i4 : Nat) : Int)), (1, .lref 0 0 3 0), (3, I ((i4 : Nat) : Int))], [(0, ⟨[.agg [.sl e.items.nl (e.items.l.map S_Item.D) (zsl e.items.nl 4) none, I e.whole.lo, I e.whole.hi]], 3, false⟩), (1, ⟨[.agg [I x4.now.lo, I x4.now.hi, I x4.cost, I x4.error]], 4, false⟩)], 2, 0⟩

def sd14 (e : S_Estate) (i4 : Nat) (x4 : S_Item) : St := ⟨104, [(2, B false), (87, B true), (86, .tup []), (85, .tup []), (84, .tup []), (83, B true), (82, B true), (81, .tup []), (80, .tup []), (79, .tup []), (78, B true), (77, B true), (76, .tup []), (75, .tup []), (74, .tup []), (73, B true), (72, B true), (71, B true), (70, I x4.cost), (69, .lref 1 0 4 2), (68, B false), (67, B false), (66, B false), (65, I x4.now.hi), (64, .lref 1 0 4 1), (63, .lref 1 0 4 0), (62, B false), (61, B false), (60, B false), (59, I x4.now.hi), (58, .lref 1 0 4 1), (57, .lref 1 0 4 0), (56, I x4.now.lo), (55, .lref 1 0 4 0), (54, .lref 1 0 4 0), (53, B false), (52, B false), (51, I x4.now.lo), (50, .lref 1 0 4 0), (49, .lref 1 0 4 0), (4, .lref 1 0 4 0), (48, .agg [I x4.now.lo, I x4.now.hi, I x4.cost, I x4.error]), (47, .ptr (.agg [I x4.now.lo, I x4.now.hi, I x4.cost, I x4.error])), (46, I ((i4 : Nat) : Int)), (45, .sl e.items.nl (e.items.l.map S_Item.D) (zsl e.items.nl 4) none), (44, .lref 0 0 3 0), (41, B true), (40, I ((e.items.l.length : Nat) : Int)), (39, .sl e.items.nl (e.items.l.map S_Item.D) (zsl e.items.nl 4) none), (38, .lref 0 0 3 0), (37, I ((i4 : Nat) : Int)), (1, .lref 0 0 3 0), (3, I ((i4 : Nat) : Int))], [(0, ⟨[.agg [.sl e.items.nl (e.items.l.map S_Item.D) (zsl e.items.nl 4) none, I e.whole.lo, I e.whole.hi]], 3, false⟩), (1, ⟨[.agg [I x4.now.lo, I x4.now.hi, I x4.cost, I x4.error]], 4, false⟩)], 2, 0⟩

def sd15 (e : S_Estate) (i4 : Nat) (x4 : S_Item) : St := ⟨104, [(2, B false), (87, B true), (86, .tup []), (85, .tup []), (84, .tup []), (83, B true), (82, B true), (81, .tup []), (80, .tup []), (79, .tup []), (78, B true), (77, B true), (76, B true), (75, I x4.cost), (74, .lref 1 0 4 2), (73, B false), (72, B false), (71, B false), (70, I x4.cost), (69, .lref 1 0 4 2), (68, B false), (67, B false), (66, B false), (65, I x4.now.hi), (64, .lref 1 0 4 1), (63, .lref 1 0 4 0), (62, B false), (61, B false), (60, B false), (59, I x4.now.hi), (58, .lref 1 0 4 1), (57, .lref 1 0 4 0), (56, I x4.now.lo), (55, .lref 1 0 4 0), (54, .lref 1 0 4 0), (53, B false), (52, B false), (51, I x4.now.lo), (50, .lref 1 0 4 0), (49, .lref 1 0 4 0), (4, .lref 1 0 4 0), (48, .agg [I x4.now.lo, I x4.now.hi, I x4.cost, I x4.error]), (47, .ptr (.agg [I x4.now.lo, I x4.now.hi, I x4.cost, I x4.error])), (46, I ((i4 : Nat) : Int)), (45, .sl e.items.nl (e.items.l.map S_Item.D) (zsl e.items.nl 4) none), (44, .lref 0 0 3 0), (41, B true), (40, I ((e.items.l.length : Nat) : Int)), (39, .sl e.items.nl (e.items.l.map S_Item.D) (zsl e.items.nl 4) none), (38, .lref 0 0 3 0), (37, I ((i4 : Nat) : Int)), (1, .lref 0 0 3 0), (3, I ((i4 : Nat) : Int))], [(0, ⟨[.agg [.sl e.items.nl (e.items.l.map S_Item.D) (zsl e.items.nl 4) none, I e.whole.lo, I e.whole.hi]], 3, false⟩), (1, ⟨[.agg [I x4.now.lo, I x4.now.hi, I x4.cost, I x4.error]], 4, false⟩)], 2, 0⟩

def sd16 (e : S_Estate) (i4 : Nat) (x4 : S_Item) : St := ⟨104, [(2, B false), (87, B true), (86, .tup []), (85, .tup []), (84, .tup []), (83, B true), (82, B true), (81, B true), (80, I x4.error), (79, .lref 1 0 4 3), (78, B false), (77, B false), (76, B false), (75, I x4.cost), (74, .lref 1 0 4 2), (73, B false), (72, B false), (71, B false), (70, I x4.cost), (69, .lref 1 0 4 2), (68, B false), (67, B false), (66, B false), (65, I x4.now.hi), (64, .lref 1 0 4 1), (63, .lref 1 0 4 0), (62, B false), (61, B false), (60, B false), (59, I x4.now.hi), (58, .lref 1 0 4 1), (57, .lref 1 0 4 0), (56, I x4.now.lo), (55, .lref 1 0 4 0), (54, .lref 1 0 4 0), (53, B false), (52, B false), (51, I x4.now.lo), (50, .lref 1 0 4 0), (49, .lref 1 0 4 0), (4, .lref 1 0 4 0), (48, .agg [I x4.now.lo, I x4.now.hi, I x4.cost, I x4.error]), (47, .ptr (.agg [I x4.now.lo, I x4.now.hi, I x4.cost, I x4.error])), (46, I ((i4 : Nat) : Int)), (45, .sl e.items.nl (e.items.l.map S_Item.D) (zsl e.items.nl 4) none), (44, .lref 0 0 3 0), (41, B true), (40, I ((e.items.l.length : Nat) : Int)), (39, .sl e.items.nl (e.items.l.map S_Item.D) (zsl e.items.nl 4) none), (38, .lref 0 0 3 0), (37, I ((i4 : Nat) : Int)), (1, .lref 0 0 3 0), (3, I ((i4 : Nat) : Int))], [(0, ⟨[.agg [.sl e.items.nl (e.items.l.map S_Item.D) (zsl e.items.nl 4) none, I e.whole.lo, I e.whole.hi]], 3, false⟩), (1, ⟨[.agg [I x4.now.lo, I x4.now.hi, I x4.cost, I x4.error]], 4, false⟩)], 2, 0⟩

def sd17 (e : S_Estate) (i4 : Nat) (x4 : S_Item) : St := ⟨104, [(2, B false), (87, B true), (86, B true), (85, I x4.error), (84, .lref 1 0 4 3), (83, B false), (82, B false), (81, B false), (80, I x4.error), (79, .lref 1 0 4 3), (78, B false), (77, B false), (76, B false), (75, I x4.cost), (74, .lref 1 0 4 2), (73, B false), (72, B false), (71, B false), (70, I x4.cost), (69, .lref 1 0 4 2), (68, B false), (67, B false), (66, B false), (65, I x4.now.hi), (64, .lref 1 0 4 1), (63, .lref 1 0 4 0), (62, B false), (61, B false), (60, B false), (59, I x4.now.hi), (58, .lref 1 0 4 1), (57, .lref 1 0 4 0), (56, I x4.now.lo), (55, .lref 1 0 4 0), (54, .lref 1 0 4 0), (53, B false), (52, B false), (51, I x4.now.lo), (50, .lref 1 0 4 0), (49, .lref 1 0 4 0), (4, .lref 1 0 4 0), (48, .agg [I x4.now.lo, I x4.now.hi, I x4.cost, I x4.error]), (47, .ptr (.agg [I x4.now.lo, I x4.now.hi, I x4.cost, I x4.error])), (46, I ((i4 : Nat) : Int)), (45, .sl e.items.nl (e.items.l.map S_Item.D) (zsl e.items.nl 4) none), (44, .lref 0 0 3 0), (41, B true), (40, I ((e.items.l.length : Nat) : Int)), (39, .sl e.items.nl (e.items.l.map S_Item.D) (zsl e.items.nl 4) none), (38, .lref 0 0 3 0), (37, I ((i4 : Nat) : Int)), (1, .lref 0 0 3 0), (3, I ((i4 : Nat) : Int))], [(0, ⟨[.agg [.sl e.items.nl (e.items.l.map S_Item.D) (zsl e.items.nl 4) none, I e.whole.lo, I e.whole.hi]], 3, false⟩), (1, ⟨[.agg [I x4.now.lo, I x4.now.hi, I x4.cost, I x4.error]], 4, false⟩)], 2, 0⟩

theorem zq (e : S_Estate) : (lim cfg).pure 19 [S_Estate.D e] = some (B (r_Valid e)) := by
  unfold r_Valid
  cases h1 : decide (((e.items.l.length : Nat) : Int) < 1) with
  | true =>
    have g1 := of_decide_eq_true h1
    exact zk [.rw 8 (I ((e.items.l.length : Nat) : Int)), .dec true] (And.intro h1 (And.intro (ze S_Item.D e.items) trivial)) (by kernel_rfl)
  | false =>
    have g1 := of_decide_eq_false h1
    cases h2 : decide (((e.items.l.length : Nat) : Int) > 12) with
    | true =>
      have g2 := of_decide_eq_true h2
      exact zk [.rw 8 (I ((e.items.l.length : Nat) : Int)), .dec false, .rw 13 (I ((e.items.l.length : Nat) : Int)), .dec true] (And.intro h2 (And.intro (ze S_Item.D e.items) (And.intro h1 (And.intro (ze S_Item.D e.items) trivial)))) (by kernel_rfl)
    | false =>
      have g2 := of_decide_eq_false h2
      cases h3 : decide (e.whole.lo < 0) with
      | true =>
        have g3 := of_decide_eq_true h3
        exact zk [.rw 8 (I ((e.items.l.length : Nat) : Int)), .dec false, .rw 13 (I ((e.items.l.length : Nat) : Int)), .dec false, .dec true] (And.intro h3 (And.intro h2 (And.intro (ze S_Item.D e.items) (And.intro h1 (And.intro (ze S_Item.D e.items) trivial))))) (by kernel_rfl)
      | false =>
        have g3 := of_decide_eq_false h3
        cases h4 : decide (e.whole.lo > e.whole.hi) with
        | true =>
          have g4 := of_decide_eq_true h4
          exact zk ((r_Valid_o1 e) ++ [.dec true]) (And.intro h4 (And.intro h3 (And.intro h2 (And.intro (ze S_Item.D e.items) (And.intro h1 (And.intro (ze S_Item.D e.items) trivial)))))) (by kernel_rfl)
        | false =>
          have g4 := of_decide_eq_false h4
          cases h5 : decide (e.whole.hi > 17179869184) with
          | true =>
            have g5 := of_decide_eq_true h5
            exact zk ((r_Valid_o1 e) ++ [.dec false, .dec true]) (And.intro h5 (And.intro h4 (And.intro h3 (And.intro h2 (And.intro (ze S_Item.D e.items) (And.intro h1 (And.intro (ze S_Item.D e.items) trivial))))))) (by kernel_rfl)
          | false =>
            have g5 := of_decide_eq_false h5
            cases h20 : r_Valid_4 e.items.l 0 with
            | x0 =>
              try dsimp only
              have p1 := (po_lr (q := lr_r_Valid_4 e) (lp_r_Valid_4 e e.items.l 0 (List.drop_zero) (Nat.zero_le _) (by first | assumption | omega | (simp only [z8, GS.some_l, List.length_set, List.length_append, List.length_cons, List.length_nil] at * <;> first | assumption | omega) | (simp only [z9] at * <;> omega) | (simp at * <;> omega))) h20)
              cases h21 : decide (((r_All e).lo) ≤ e.whole.hi) with
              | true =>
                have g21 := of_decide_eq_true h21
                cases h22 : decide (((r_All e).hi) ≥ e.whole.lo) with
                | true =>
                  have g22 := of_decide_eq_true h22
                  exact zk ((r_Valid_o1 e) ++ [.dec false, .dec false, .loop (.exit 0) (sd10 e), .pure (.agg [I ((r_All e).lo), I ((r_All e).hi)]), .dec true, .dec true]) (And.intro h22 (And.intro h21 (And.intro (T_r_All e (by first | assumption | omega | (simp only [z8, GS.some_l, List.length_set, List.length_append, List.length_cons, List.length_nil] at * <;> first | assumption | omega) | (simp only [z9] at * <;> omega) | (simp at * <;> omega))) (And.intro p1 (And.intro h5 (And.intro h4 (And.intro h3 (And.intro h2 (And.intro (ze S_Item.D e.items) (And.intro h1 (And.intro (ze S_Item.D e.items) trivial))))))))))) (by kernel_rfl)
                | false =>
                  have g22 := of_decide_eq_false h22
                  exact zk ((r_Valid_o1 e) ++ [.dec false, .dec false, .loop (.exit 0) (sd10 e), .pure (.agg [I ((r_All e).lo), I ((r_All e).hi)]), .dec true, .dec false]) (And.intro h22 (And.intro h21 (And.intro (T_r_All e (by first | assumption | omega | (simp only [z8, GS.some_l, List.length_set, List.length_append, List.length_cons, List.length_nil] at * <;> first | assumption | omega) | (simp only [z9] at * <;> omega) | (simp at * <;> omega))) (And.intro p1 (And.intro h5 (And.intro h4 (And.intro h3 (And.intro h2 (And.intro (ze S_Item.D e.items) (And.intro h1 (And.intro (ze S_Item.D e.items) trivial))))))))))) (by kernel_rfl)
              | false =>
                have g21 := of_decide_eq_false h21
                exact zk ((r_Valid_o1 e) ++ [.dec false, .dec false, .loop (.exit 0) (sd10 e), .pure (.agg [I ((r_All e).lo), I ((r_All e).hi)]), .dec false]) (And.intro h21 (And.intro (T_r_All e (by first | assumption | omega | (simp only [z8, GS.some_l, List.length_set, List.length_append, List.length_cons, List.length_nil] at * <;> first | assumption | omega) | (simp only [z9] at * <;> omega) | (simp at * <;> omega))) (And.intro p1 (And.intro h5 (And.intro h4 (And.intro h3 (And.intro h2 (And.intro (ze S_Item.D e.items) (And.intro h1 (And.intro (ze S_Item.D e.items) trivial)))))))))) (by kernel_rfl)
            | x1 i4 x4 =>
              try dsimp only
              exact zk ((r_Valid_o1 e) ++ [.dec false, .dec false, .loop .ret (sd11 e i4 x4)]) (And.intro (po_lr (q := lr_r_Valid_4 e) (lp_r_Valid_4 e e.items.l 0 (List.drop_zero) (Nat.zero_le _) (by first | assumption | omega | (simp only [z8, GS.some_l, List.length_set, List.length_append, List.length_cons, List.length_nil] at * <;> first | assumption | omega) | (simp only [z9] at * <;> omega) | (simp at * <;> omega))) h20) (And.intro h5 (And.intro h4 (And.intro h3 (And.intro h2 (And.intro (ze S_Item.D e.items) (And.intro h1 (And.intro (ze S_Item.D e.items) trivial)))))))) (by kernel_rfl)
            | x2 i4 x4 =>
              try dsimp only
              exact zk ((r_Valid_o1 e) ++ [.dec false, .dec false, .loop .ret (sd12 e i4 x4)]) (And.intro (po_lr (q := lr_r_Valid_4 e) (lp_r_Valid_4 e e.items.l 0 (List.drop_zero) (Nat.zero_le _) (by first | assumption | omega | (simp only [z8, GS.some_l, List.length_set, List.length_append, List.length_cons, List.length_nil] at * <;> first | assumption | omega) | (simp only [z9] at * <;> omega) | (simp at * <;> omega))) h20) (And.intro h5 (And.intro h4 (And.intro h3 (And.intro h2 (And.intro (ze S_Item.D e.items) (And.intro h1 (And.intro (ze S_Item.D e.items) trivial)))))))) (by kernel_rfl)
            | x3 i4 x4 =>
              try dsimp only
              exact zk ((r_Valid_o1 e) ++ [.dec false, .dec false, .loop .ret (sd13 e i4 x4)]) (And.intro (po_lr (q := lr_r_Valid_4 e) (lp_r_Valid_4 e e.items.l 0 (List.drop_zero) (Nat.zero_le _) (by first | assumption | omega | (simp only [z8, GS.some_l, List.length_set, List.length_append, List.length_cons, List.length_nil] at * <;> first | assumption | omega) | (simp only [z9] at * <;> omega) | (simp at * <;> omega))) h20) (And.intro h5 (And.intro h4 (And.intro h3 (And.intro h2 (And.intro (ze S_Item.D e.items) (And.intro h1 (And.intro (ze S_Item.D e.items) trivial)))))))) (by kernel_rfl)
            | x4 i4 x4 =>
              try dsimp only
              exact zk ((r_Valid_o1 e) ++ [.dec false, .dec false, .loop .ret (sd14 e i4 x4)]) (And.intro (po_lr (q := lr_r_Valid_4 e) (lp_r_Valid_4 e e.items.l 0 (List.drop_zero) (Nat.zero_le _) (by first | assumption | omega | (simp only [z8, GS.some_l, List.length_set, List.length_append, List.length_cons, List.length_nil] at * <;> first | assumption | omega) | (simp only [z9] at * <;> omega) | (simp at * <;> omega))) h20) (And.intro h5 (And.intro h4 (And.intro h3 (And.intro h2 (And.intro (ze S_Item.D e.items) (And.intro h1 (And.intro (ze S_Item.D e.items) trivial)))))))) (by kernel_rfl)
            | x5 i4 x4 =>
              try dsimp only
              exact zk ((r_Valid_o1 e) ++ [.dec false, .dec false, .loop .ret (sd15 e i4 x4)]) (And.intro (po_lr (q := lr_r_Valid_4 e) (lp_r_Valid_4 e e.items.l 0 (List.drop_zero) (Nat.zero_le _) (by first | assumption | omega | (simp only [z8, GS.some_l, List.length_set, List.length_append, List.length_cons, List.length_nil] at * <;> first | assumption | omega) | (simp only [z9] at * <;> omega) | (simp at * <;> omega))) h20) (And.intro h5 (And.intro h4 (And.intro h3 (And.intro h2 (And.intro (ze S_Item.D e.items) (And.intro h1 (And.intro (ze S_Item.D e.items) trivial)))))))) (by kernel_rfl)
            | x6 i4 x4 =>
              try dsimp only
              exact zk ((r_Valid_o1 e) ++ [.dec false, .dec false, .loop .ret (sd16 e i4 x4)]) (And.intro (po_lr (q := lr_r_Valid_4 e) (lp_r_Valid_4 e e.items.l 0 (List.drop_zero) (Nat.zero_le _) (by first | assumption | omega | (simp only [z8, GS.some_l, List.length_set, List.length_append, List.length_cons, List.length_nil] at * <;> first | assumption | omega) | (simp only [z9] at * <;> omega) | (simp at * <;> omega))) h20) (And.intro h5 (And.intro h4 (And.intro h3 (And.intro h2 (And.intro (ze S_Item.D e.items) (And.intro h1 (And.intro (ze S_Item.D e.items) trivial)))))))) (by kernel_rfl)
            | x7 i4 x4 =>
              try dsimp only
              exact zk ((r_Valid_o1 e) ++ [.dec false, .dec false, .loop .ret (sd17 e i4 x4)]) (And.intro (po_lr (q := lr_r_Valid_4 e) (lp_r_Valid_4 e e.items.l 0 (List.drop_zero) (Nat.zero_le _) (by first | assumption | omega | (simp only [z8, GS.some_l, List.length_set, List.length_append, List.length_cons, List.length_nil] at * <;> first | assumption | omega) | (simp only [z9] at * <;> omega) | (simp at * <;> omega))) h20) (And.intro h5 (And.intro h4 (And.intro h3 (And.intro h2 (And.intro (ze S_Item.D e.items) (And.intro h1 (And.intro (ze S_Item.D e.items) trivial)))))))) (by kernel_rfl)

theorem valid_len {e : S_Estate} (h : r_Valid e = true) : 1 ≤ e.items.l.length ∧ e.items.l.length ≤ 12 := by
  unfold r_Valid at h
  simp only [Bool.cond_decide] at h
  split at h
  · cases h
  split at h
  · cases h
  omega

noncomputable def lp48_4 : Code := subC [1, 1, 0, 1, 0, 0] (bodyC Try.f48)
inductive LR_r_Same_4 where
  | x0
  | x1 (i4 : Nat) (x4 : S_Item)
def r_Same_4 (b : S_Estate) : List S_Item → Nat → LR_r_Same_4
  | [], i4 => .x0
  | x4 :: rest4, i4 =>
    bif (!(((x4.now.lo == ((GS.at b.items ((i4 : Nat) : Int)).now.lo)) && ((x4.now.hi == ((GS.at b.items ((i4 : Nat) : Int)).now.hi)) && true)) && ((x4.cost == ((GS.at b.items ((i4 : Nat) : Int)).cost)) && ((x4.error == ((GS.at b.items ((i4 : Nat) : Int)).error)) && true)))) then
      .x1 i4 x4
    else
      r_Same_4 b rest4 (i4 + 1)
def lr_r_Same_4 (a : S_Estate) (b : S_Estate) : LR_r_Same_4 → Exit × St
  | .x0 => ((.exit 0), ⟨38, [(24, B false), (23, I ((a.items.l.length : Nat) : Int)), (22, .sl a.items.nl (a.items.l.map S_Item.D) (zsl a.items.nl 4) none), (21, .lref 0 0 3 0), (20, I ((a.items.l.length : Nat) : Int)), (2, .lref 0 0 3 0), (3, .lref 1 0 3 0), (5, I ((a.items.l.length : Nat) : Int))], [(0, ⟨[.agg [.sl a.items.nl (a.items.l.map S_Item.D) (zsl a.items.nl 4) none, I a.whole.lo, I a.whole.hi]], 3, false⟩), (1, ⟨[.agg [.sl b.items.nl (b.items.l.map S_Item.D) (zsl b.items.nl 4) none, I b.whole.lo, I b.whole.hi]], 3, false⟩)], 2, 0⟩)
  | .x1 i4 x4 => (.ret, ⟨38, [(4, B false), (37, B true), (36, .agg [I ((GS.at b.items ((i4 : Nat) : Int)).now.lo), I ((GS.at b.items ((i4 : Nat) : Int)).now.hi), I ((GS.at b.items ((i4 : Nat) : Int)).cost), I ((GS.at b.items ((i4 : Nat) : Int)).error)]), (35, .ptr (.agg [I ((GS.at b.items ((i4 : Nat) : Int)).now.lo), I ((GS.at b.items ((i4 : Nat) : Int)).now.hi), I ((GS.at b.items ((i4 : Nat) : Int)).cost), I ((GS.at b.items ((i4 : Nat) : Int)).error)])), (34, I ((i4 : Nat) : Int)), (33, .sl b.items.nl (b.items.l.map S_Item.D) (zsl b.items.nl 4) none), (32, .lref 1 0 3 0), (31, .agg [I x4.now.lo, I x4.now.hi, I x4.cost, I x4.error]), (30, .ptr (.agg [I x4.now.lo, I x4.now.hi, I x4.cost, I x4.error])), (29, I ((i4 : Nat) : Int)), (28, .sl a.items.nl (a.items.l.map S_Item.D) (zsl a.items.nl 4) none), (27, .lref 0 0 3 0), (24, B true), (23, I ((a.items.l.length : Nat) : Int)), (22, .sl a.items.nl (a.items.l.map S_Item.D) (zsl a.items.nl 4) none), (21, .lref 0 0 3 0), (20, I ((i4 : Nat) : Int)), (2, .lref 0 0 3 0), (3, .lref 1 0 3 0), (5, I ((i4 : Nat) : Int))], [(0, ⟨[.agg [.sl a.items.nl (a.items.l.map S_Item.D) (zsl a.items.nl 4) none, I a.whole.lo, I a.whole.hi]], 3, false⟩), (1, ⟨[.agg [.sl b.items.nl (b.items.l.map S_Item.D) (zsl b.items.nl 4) none, I b.whole.lo, I b.whole.hi]], 3, false⟩)], 2, 0⟩)
theorem lp_r_Same_4 (a : S_Estate) (b : S_Estate) : ∀ (rest4 : List S_Item) (i4 : Nat) (hd4 : a.items.l.drop i4 = rest4) (hi4 : i4 ≤ a.items.l.length) (hS : a.items.l.length = b.items.l.length) (hL4 : a.items.l.length ≤ 9223372036854775807), (lim cfg).loop 48 lp48_4 ⟨38, [(2, .lref 0 0 3 0), (3, .lref 1 0 3 0), (5, I ((i4 : Nat) : Int))], [(0, ⟨[.agg [.sl a.items.nl (a.items.l.map S_Item.D) (zsl a.items.nl 4) none, I a.whole.lo, I a.whole.hi]], 3, false⟩), (1, ⟨[.agg [.sl b.items.nl (b.items.l.map S_Item.D) (zsl b.items.nl 4) none, I b.whole.lo, I b.whole.hi]], 3, false⟩)], 2, 0⟩ = some (lr_r_Same_4 a b (r_Same_4 b rest4 i4)) := by
  intro rest4
  induction rest4 with
  | nil =>
    intro i4 hd4 hi4 hS hL4
    unfold r_Same_4
    obtain rfl : i4 = a.items.l.length := nil_eq hd4 hi4
    exact zF [.rw 23 (I ((a.items.l.length : Nat) : Int)), .dec false] (And.intro (lt_no hd4) (And.intro (ze S_Item.D a.items) trivial)) (by kernel_rfl)
  | cons x4 rest4 ih =>
    intro i4 hd4 hi4 hS hL4
    have hlt4 := lt_nat hd4
    unfold r_Same_4
    cases h4 : (!(((x4.now.lo == ((GS.at b.items ((i4 : Nat) : Int)).now.lo)) && ((x4.now.hi == ((GS.at b.items ((i4 : Nat) : Int)).now.hi)) && true)) && ((x4.cost == ((GS.at b.items ((i4 : Nat) : Int)).cost)) && ((x4.error == ((GS.at b.items ((i4 : Nat) : Int)).error)) && true)))) with
    | true =>
      exact zF [.rw 23 (I ((a.items.l.length : Nat) : Int)), .dec true, .el (.agg [I x4.now.lo, I x4.now.hi, I x4.cost, I x4.error]), .el (.agg [I ((GS.at b.items ((i4 : Nat) : Int)).now.lo), I ((GS.at b.items ((i4 : Nat) : Int)).now.hi), I ((GS.at b.items ((i4 : Nat) : Int)).cost), I ((GS.at b.items ((i4 : Nat) : Int)).error)]), .dec true] (And.intro h4 (And.intro (el_in (s := b.items) (f := S_Item.D) (k := 4) (i := ((i4 : Nat) : Int)) (by first | assumption | omega | (simp only [z8, GS.some_l, List.length_set, List.length_append, List.length_cons, List.length_nil] at * <;> first | assumption | omega) | (simp only [z9] at * <;> omega) | (simp at * <;> omega)) (by first | assumption | omega | (simp only [z8, GS.some_l, List.length_set, List.length_append, List.length_cons, List.length_nil] at * <;> first | assumption | omega) | (simp only [z9] at * <;> omega) | (simp at * <;> omega))) (And.intro (el_at (s := a.items) (f := S_Item.D) (k := 4) hd4) (And.intro (lt_at hd4) (And.intro (ze S_Item.D a.items) trivial))))) (by kernel_rfl)
    | false =>
      exact po_turn [.rw 23 (I ((a.items.l.length : Nat) : Int)), .dec true, .el (.agg [I x4.now.lo, I x4.now.hi, I x4.cost, I x4.error]), .el (.agg [I ((GS.at b.items ((i4 : Nat) : Int)).now.lo), I ((GS.at b.items ((i4 : Nat) : Int)).now.hi), I ((GS.at b.items ((i4 : Nat) : Int)).cost), I ((GS.at b.items ((i4 : Nat) : Int)).error)]), .dec false, .rw 26 (I ((i4 + 1 : Nat) : Int))] (And.intro (inc_rw (i := i4) (by have := lt_nat hd4; omega)) (And.intro h4 (And.intro (el_in (s := b.items) (f := S_Item.D) (k := 4) (i := ((i4 : Nat) : Int)) (by first | assumption | omega | (simp only [z8, GS.some_l, List.length_set, List.length_append, List.length_cons, List.length_nil] at * <;> first | assumption | omega) | (simp only [z9] at * <;> omega) | (simp at * <;> omega)) (by first | assumption | omega | (simp only [z8, GS.some_l, List.length_set, List.length_append, List.length_cons, List.length_nil] at * <;> first | assumption | omega) | (simp only [z9] at * <;> omega) | (simp at * <;> omega))) (And.intro (el_at (s := a.items) (f := S_Item.D) (k := 4) hd4) (And.intro (lt_at hd4) (And.intro (ze S_Item.D a.items) trivial)))))) (ih (i4 + 1) (drop_next hd4) (lt_nat hd4) (by first | assumption | omega | (simp only [z8, GS.some_l, List.length_set, List.length_append, List.length_cons, List.length_nil] at * <;> first | assumption | omega) | (simp only [z9] at * <;> omega) | (simp at * <;> omega)) (by first | assumption | omega | (simp only [z8, GS.some_l, List.length_set, List.length_append, List.length_cons, List.length_nil] at * <;> first | assumption | omega) | (simp only [z9] at * <;> omega) | (simp at * <;> omega))) (by kernel_rfl)

def r_Same (a : S_Estate) (b : S_Estate) : Bool :=
  bif (((a.items.l.length : Nat) : Int) != ((b.items.l.length : Nat) : Int)) then
    false
  else
    bif (!((a.whole.lo == b.whole.lo) && ((a.whole.hi == b.whole.hi) && true))) then
      false
    else
      match r_Same_4 b a.items.l 0 with
      | .x0 =>
        true
      | .x1 i4 x4 =>
        false

def sd18 (a : S_Estate) (b : S_Estate) : St := ⟨38, [(24, B false), (23, I ((a.items.l.length : Nat) : Int)), (22, .sl a.items.nl (a.items.l.map S_Item.D) (zsl a.items.nl 4) none), (21, .lref 0 0 3 0), (20, I ((a.items.l.length : Nat) : Int)), (2, .lref 0 0 3 0), (3, .lref 1 0 3 0), (5, I ((a.items.l.length : Nat) : Int))], [(0, ⟨[.agg [.sl a.items.nl (a.items.l.map S_Item.D) (zsl a.items.nl 4) none, I a.whole.lo, I a.whole.hi]], 3, false⟩), (1, ⟨[.agg [.sl b.items.nl (b.items.l.map S_Item.D) (zsl b.items.nl 4) none, I b.whole.lo, I b.whole.hi]], 3, false⟩)], 2, 0⟩

def sd19 (a : S_Estate) (b : S_Estate) (i4 : Nat) (x4 : S_Item) : St := ⟨38, [(4, B false), (37, B true), (36, .agg [I ((GS.at b.items ((i4 : Nat) : Int)).now.lo), I ((GS.at b.items ((i4 : Nat) : Int)).now.hi), I ((GS.at b.items ((i4 : Nat) : Int)).cost), I ((GS.at b.items ((i4 : Nat) : Int)).error)]), (35, .ptr (.agg [I ((GS.at b.items ((i4 : Nat) : Int)).now.lo), I ((GS.at b.items ((i4 : Nat) : Int)).now.hi), I ((GS.at b.items ((i4 : Nat) : Int)).cost), I ((GS.at b.items ((i4 : Nat) : Int)).error)])), (34, I ((i4 : Nat) : Int)), (33, .sl b.items.nl (b.items.l.map S_Item.D) (zsl b.items.nl 4) none), (32, .lref 1 0 3 0), (31, .agg [I x4.now.lo, I x4.now.hi, I x4.cost, I x4.error]), (30, .ptr (.agg [I x4.now.lo, I x4.now.hi, I x4.cost, I x4.error])), (29, I ((i4 : Nat) : Int)), (28, .sl a.items.nl (a.items.l.map S_Item.D) (zsl a.items.nl 4) none), (27, .lref 0 0 3 0), (24, B true), (23, I ((a.items.l.length : Nat) : Int)), (22, .sl a.items.nl (a.items.l.map S_Item.D) (zsl a.items.nl 4) none), (21, .lref 0 0 3 0), (20, I ((i4 : Nat) : Int)), (2, .lref 0 0 3 0), (3, .lref 1 0 3 0), (5, I ((i4 : Nat) : Int))], [(0, ⟨[.agg [.sl a.items.nl (a.items.l.map S_Item.D) (zsl a.items.nl 4) none, I a.whole.lo, I a.whole.hi]], 3, false⟩), (1, ⟨[.agg [.sl b.items.nl (b.items.l.map S_Item.D) (zsl b.items.nl 4) none, I b.whole.lo, I b.whole.hi]], 3, false⟩)], 2, 0⟩

theorem T_r_Same (a : S_Estate) (b : S_Estate) (hL_a_items : a.items.l.length ≤ 9223372036854775807) : (lim cfg).pure 48 [S_Estate.D a, S_Estate.D b] = some (B (r_Same a b)) := by
  unfold r_Same
  cases h1 : (((a.items.l.length : Nat) : Int) != ((b.items.l.length : Nat) : Int)) with
  | true =>
    have g1 := bne_true h1
    exact zk [.rw 8 (I ((a.items.l.length : Nat) : Int)), .rw 11 (I ((b.items.l.length : Nat) : Int)), .dec true] (And.intro h1 (And.intro (ze S_Item.D b.items) (And.intro (ze S_Item.D a.items) trivial))) (by kernel_rfl)
  | false =>
    have g1 := bne_false h1
    cases h2 : (!((a.whole.lo == b.whole.lo) && ((a.whole.hi == b.whole.hi) && true))) with
    | true =>
      exact zk [.rw 8 (I ((a.items.l.length : Nat) : Int)), .rw 11 (I ((b.items.l.length : Nat) : Int)), .dec false, .dec true] (And.intro h2 (And.intro h1 (And.intro (ze S_Item.D b.items) (And.intro (ze S_Item.D a.items) trivial)))) (by kernel_rfl)
    | false =>
      cases h5 : r_Same_4 b a.items.l 0 with
      | x0 =>
        try dsimp only
        exact zk [.rw 8 (I ((a.items.l.length : Nat) : Int)), .rw 11 (I ((b.items.l.length : Nat) : Int)), .dec false, .dec false, .loop (.exit 0) (sd18 a b)] (And.intro (po_lr (q := lr_r_Same_4 a b) (lp_r_Same_4 a b a.items.l 0 (List.drop_zero) (Nat.zero_le _) (by first | assumption | omega | (simp only [z8, GS.some_l, List.length_set, List.length_append, List.length_cons, List.length_nil] at * <;> first | assumption | omega) | (simp only [z9] at * <;> omega) | (simp at * <;> omega)) (by first | assumption | omega | (simp only [z8, GS.some_l, List.length_set, List.length_append, List.length_cons, List.length_nil] at * <;> first | assumption | omega) | (simp only [z9] at * <;> omega) | (simp at * <;> omega))) h5) (And.intro h2 (And.intro h1 (And.intro (ze S_Item.D b.items) (And.intro (ze S_Item.D a.items) trivial))))) (by kernel_rfl)
      | x1 i4 x4 =>
        try dsimp only
        exact zk [.rw 8 (I ((a.items.l.length : Nat) : Int)), .rw 11 (I ((b.items.l.length : Nat) : Int)), .dec false, .dec false, .loop .ret (sd19 a b i4 x4)] (And.intro (po_lr (q := lr_r_Same_4 a b) (lp_r_Same_4 a b a.items.l 0 (List.drop_zero) (Nat.zero_le _) (by first | assumption | omega | (simp only [z8, GS.some_l, List.length_set, List.length_append, List.length_cons, List.length_nil] at * <;> first | assumption | omega) | (simp only [z9] at * <;> omega) | (simp at * <;> omega)) (by first | assumption | omega | (simp only [z8, GS.some_l, List.length_set, List.length_append, List.length_cons, List.length_nil] at * <;> first | assumption | omega) | (simp only [z9] at * <;> omega) | (simp at * <;> omega))) h5) (And.intro h2 (And.intro h1 (And.intro (ze S_Item.D b.items) (And.intro (ze S_Item.D a.items) trivial))))) (by kernel_rfl)

noncomputable def lp33_8 : Code := subC [1, 1, 1, 1, 0, 1, 0, 0] (bodyC Try.f33)
inductive LR_orders_CheckAreas_8 where
  | x0 (v8_0 : Int)
  | x1 (i8 : Nat) (x8 : Int) (v8_0 : Int)
def orders_CheckAreas_8 (e : S_Estate) : List Int → Nat → Int → LR_orders_CheckAreas_8
  | [], i8, v8_0 => .x0 v8_0
  | x8 :: rest8, i8, v8_0 =>
    bif (zp x8 ((GS.at e.items ((i8 : Nat) : Int)).now.lo) ((GS.at e.items ((i8 : Nat) : Int)).now.hi)) then
      orders_CheckAreas_8 e rest8 (i8 + 1) (w64 (v8_0 + x8))
    else
      .x1 i8 x8 v8_0
def lr_orders_CheckAreas_8 (e : S_Estate) (l : GS Int) : LR_orders_CheckAreas_8 → Exit × St
  | .x0 v8_0 => ((.exit 0), ⟨54, [(24, B false), (2, .lref 0 0 3 0), (6, I v8_0), (21, .sl l.nl (l.l.map I) (zsl l.nl 1) none), (22, I ((l.l.length : Nat) : Int)), (23, I ((l.l.length : Nat) : Int))], [(0, ⟨[.agg [.sl e.items.nl (e.items.l.map S_Item.D) (zsl e.items.nl 4) none, I e.whole.lo, I e.whole.hi]], 3, false⟩)], 1, 0⟩)
  | .x1 i8 x8 v8_0 => (.ret, ⟨54, [(4, I 80), (40, B true), (39, B false), (38, I ((GS.at e.items ((i8 : Nat) : Int)).now.hi)), (37, .lref 1 0 2 1), (36, I ((GS.at e.items ((i8 : Nat) : Int)).now.lo)), (35, .lref 1 0 2 0), (34, I x8), (9, .lref 1 0 2 0), (33, .agg [I ((GS.at e.items ((i8 : Nat) : Int)).now.lo), I ((GS.at e.items ((i8 : Nat) : Int)).now.hi)]), (32, .ptr (.agg [I ((GS.at e.items ((i8 : Nat) : Int)).now.lo), I ((GS.at e.items ((i8 : Nat) : Int)).now.hi)])), (31, .ptr (.agg [I ((GS.at e.items ((i8 : Nat) : Int)).now.lo), I ((GS.at e.items ((i8 : Nat) : Int)).now.hi), I ((GS.at e.items ((i8 : Nat) : Int)).cost), I ((GS.at e.items ((i8 : Nat) : Int)).error)])), (30, I ((i8 : Nat) : Int)), (29, .sl e.items.nl (e.items.l.map S_Item.D) (zsl e.items.nl 4) none), (28, .lref 0 0 3 0), (8, I x8), (7, I ((i8 : Nat) : Int)), (27, I x8), (26, .ptr (I x8)), (25, I ((i8 : Nat) : Int)), (24, B true), (2, .lref 0 0 3 0), (6, I v8_0), (21, .sl l.nl (l.l.map I) (zsl l.nl 1) none), (22, I ((l.l.length : Nat) : Int)), (23, I ((i8 : Nat) : Int))], [(0, ⟨[.agg [.sl e.items.nl (e.items.l.map S_Item.D) (zsl e.items.nl 4) none, I e.whole.lo, I e.whole.hi]], 3, false⟩), (1, ⟨[.agg [I ((GS.at e.items ((i8 : Nat) : Int)).now.lo), I ((GS.at e.items ((i8 : Nat) : Int)).now.hi)]], 2, false⟩)], 2, 0⟩)
theorem lp_orders_CheckAreas_8 (e : S_Estate) (l : GS Int) : ∀ (rest8 : List Int) (i8 : Nat) (v8_0 : Int) (hd8 : l.l.drop i8 = rest8) (hi8 : i8 ≤ l.l.length) (hS : l.l.length = e.items.l.length) (hL8 : l.l.length ≤ 9223372036854775807), (lim cfg).loop 33 lp33_8 ⟨54, [(2, .lref 0 0 3 0), (6, I v8_0), (21, .sl l.nl (l.l.map I) (zsl l.nl 1) none), (22, I ((l.l.length : Nat) : Int)), (23, I ((i8 : Nat) : Int))], [(0, ⟨[.agg [.sl e.items.nl (e.items.l.map S_Item.D) (zsl e.items.nl 4) none, I e.whole.lo, I e.whole.hi]], 3, false⟩)], 1, 0⟩ = some (lr_orders_CheckAreas_8 e l (orders_CheckAreas_8 e rest8 i8 v8_0)) := by
  intro rest8
  induction rest8 with
  | nil =>
    intro i8 v8_0 hd8 hi8 hS hL8
    unfold orders_CheckAreas_8
    obtain rfl : i8 = l.l.length := nil_eq hd8 hi8
    exact zF [.dec false] (And.intro (lt_no hd8) trivial) (by kernel_rfl)
  | cons x8 rest8 ih =>
    intro i8 v8_0 hd8 hi8 hS hL8
    have hlt8 := lt_nat hd8
    unfold orders_CheckAreas_8
    cases h4 : (zp x8 ((GS.at e.items ((i8 : Nat) : Int)).now.lo) ((GS.at e.items ((i8 : Nat) : Int)).now.hi)) with
    | true =>
      have g4 := within_t h4
      exact po_turn [.dec true, .el (I x8), .el (.agg [I ((GS.at e.items ((i8 : Nat) : Int)).now.lo), I ((GS.at e.items ((i8 : Nat) : Int)).now.hi), I ((GS.at e.items ((i8 : Nat) : Int)).cost), I ((GS.at e.items ((i8 : Nat) : Int)).error)]), .pure (B (zp x8 ((GS.at e.items ((i8 : Nat) : Int)).now.lo) ((GS.at e.items ((i8 : Nat) : Int)).now.hi))), .dec true, .rw 44 (I ((i8 + 1 : Nat) : Int))] (And.intro (inc_rw (i := i8) (by have := lt_nat hd8; omega)) (And.intro h4 (And.intro (T_orders_within x8 ((GS.at e.items ((i8 : Nat) : Int)).now.lo) ((GS.at e.items ((i8 : Nat) : Int)).now.hi)) (And.intro (el_in (s := e.items) (f := S_Item.D) (k := 4) (i := ((i8 : Nat) : Int)) (by first | assumption | omega | (simp only [z8, GS.some_l, List.length_set, List.length_append, List.length_cons, List.length_nil] at * <;> first | assumption | omega) | (simp only [z9] at * <;> omega) | (simp at * <;> omega)) (by first | assumption | omega | (simp only [z8, GS.some_l, List.length_set, List.length_append, List.length_cons, List.length_nil] at * <;> first | assumption | omega) | (simp only [z9] at * <;> omega) | (simp at * <;> omega))) (And.intro (el_at (s := l) (f := I) (k := 1) hd8) (And.intro (lt_at hd8) trivial)))))) (ih (i8 + 1) (w64 (v8_0 + x8)) (drop_next hd8) (lt_nat hd8) (by first | assumption | omega | (simp only [z8, GS.some_l, List.length_set, List.length_append, List.length_cons, List.length_nil] at * <;> first | assumption | omega) | (simp only [z9] at * <;> omega) | (simp at * <;> omega)) (by first | assumption | omega | (simp only [z8, GS.some_l, List.length_set, List.length_append, List.length_cons, List.length_nil] at * <;> first | assumption | omega) | (simp only [z9] at * <;> omega) | (simp at * <;> omega))) (by kernel_rfl)
    | false =>
      have g4 := within_f h4
      exact zF [.dec true, .el (I x8), .el (.agg [I ((GS.at e.items ((i8 : Nat) : Int)).now.lo), I ((GS.at e.items ((i8 : Nat) : Int)).now.hi), I ((GS.at e.items ((i8 : Nat) : Int)).cost), I ((GS.at e.items ((i8 : Nat) : Int)).error)]), .pure (B (zp x8 ((GS.at e.items ((i8 : Nat) : Int)).now.lo) ((GS.at e.items ((i8 : Nat) : Int)).now.hi))), .dec false] (And.intro h4 (And.intro (T_orders_within x8 ((GS.at e.items ((i8 : Nat) : Int)).now.lo) ((GS.at e.items ((i8 : Nat) : Int)).now.hi)) (And.intro (el_in (s := e.items) (f := S_Item.D) (k := 4) (i := ((i8 : Nat) : Int)) (by first | assumption | omega | (simp only [z8, GS.some_l, List.length_set, List.length_append, List.length_cons, List.length_nil] at * <;> first | assumption | omega) | (simp only [z9] at * <;> omega) | (simp at * <;> omega)) (by first | assumption | omega | (simp only [z8, GS.some_l, List.length_set, List.length_append, List.length_cons, List.length_nil] at * <;> first | assumption | omega) | (simp only [z9] at * <;> omega) | (simp at * <;> omega))) (And.intro (el_at (s := l) (f := I) (k := 1) hd8) (And.intro (lt_at hd8) trivial))))) (by kernel_rfl)

def z7 (e : S_Estate) (l : GS Int) : Int :=
  bif ((zB e) != 0) then
    (zB e)
  else
    bif (((l.l.length : Nat) : Int) != ((e.items.l.length : Nat) : Int)) then
      80
    else
      match orders_CheckAreas_8 e l.l 0 0 with
      | .x0 v8_0 =>
        bif (zp v8_0 e.whole.lo e.whole.hi) then
          0
        else
          80
      | .x1 i8 x8 v8_0 =>
        80

def orders_CheckAreas_o1 (e : S_Estate) (l : GS Int) : List Ora := [.pure (I (zB e)), .dec false, .rw 16 (I ((l.l.length : Nat) : Int)), .rw 19 (I ((e.items.l.length : Nat) : Int))]

def sd20 (e : S_Estate) (l : GS Int) (v8_0 : Int) : St := ⟨54, [(24, B false), (2, .lref 0 0 3 0), (6, I v8_0), (21, .sl l.nl (l.l.map I) (zsl l.nl 1) none), (22, I ((l.l.length : Nat) : Int)), (23, I ((l.l.length : Nat) : Int))], [(0, ⟨[.agg [.sl e.items.nl (e.items.l.map S_Item.D) (zsl e.items.nl 4) none, I e.whole.lo, I e.whole.hi]], 3, false⟩)], 1, 0⟩

def orders_CheckAreas_o2 (e : S_Estate) (l : GS Int) (v8_0 : Int) : List Ora := [.dec false, .rw 22 (I ((l.l.length : Nat) : Int)), .loop (.exit 0) (sd20 e l v8_0), .pure (B (zp v8_0 e.whole.lo e.whole.hi))]

def sd21 (e : S_Estate) (l : GS Int) (i8 : Nat) (x8 : Int) (v8_0 : Int) : St := ⟨54, [(4, I 80), (40, B true), (39, B false), (38, I ((GS.at e.items ((i8 : Nat) : Int)).now.hi)), (37, .lref 1 0 2 1), (36, I ((GS.at e.items ((i8 : Nat) : Int)).now.lo)), (35, .lref 1 0 2 0), (34, I x8), (9, .lref 1 0 2 0), (33, .agg [I ((GS.at e.items ((i8 : Nat) : Int)).now.lo), I ((GS.at e.items ((i8 : Nat) : Int)).now.hi)]), (32, .ptr (.agg [I ((GS.at e.items ((i8 : Nat) : Int)).now.lo), I ((GS.at e.items ((i8 : Nat) : Int)).now.hi)])), (31, .ptr (.agg [I ((GS.at e.items ((i8 : Nat) : Int)).now.lo), I ((GS.at e.items ((i8 : Nat) : Int)).now.hi), I ((GS.at e.items ((i8 : Nat) : Int)).cost), I ((GS.at e.items ((i8 : Nat) : Int)).error)])), (30, I ((i8 : Nat) : Int)), (29, .sl e.items.nl (e.items.l.map S_Item.D) (zsl e.items.nl 4) none), (28, .lref 0 0 3 0), (8, I x8), (7, I ((i8 : Nat) : Int)), (27, I x8), (26, .ptr (I x8)), (25, I ((i8 : Nat) : Int)), (24, B true), (2, .lref 0 0 3 0), (6, I v8_0), (21, .sl l.nl (l.l.map I) (zsl l.nl 1) none), (22, I ((l.l.length : Nat) : Int)), (23, I ((i8 : Nat) : Int))], [(0, ⟨[.agg [.sl e.items.nl (e.items.l.map S_Item.D) (zsl e.items.nl 4) none, I e.whole.lo, I e.whole.hi]], 3, false⟩), (1, ⟨[.agg [I ((GS.at e.items ((i8 : Nat) : Int)).now.lo), I ((GS.at e.items ((i8 : Nat) : Int)).now.hi)]], 2, false⟩)], 2, 0⟩

theorem zD (e : S_Estate) (l : GS Int) (hL_l : l.l.length ≤ 9223372036854775807) : (lim cfg).pure 33 [S_Estate.D e, GS.D I 1 l] = some (I (z7 e l)) := by
  unfold z7
  cases h1 : ((zB e) != 0) with
  | true =>
    have g1 := bne_true h1
    exact zk [.pure (I (zB e)), .dec true] (And.intro h1 (And.intro (T_orders_Check e) trivial)) (by kernel_rfl)
  | false =>
    have g1 := check_len (bne_false h1)
    cases h2 : (((l.l.length : Nat) : Int) != ((e.items.l.length : Nat) : Int)) with
    | true =>
      have g2 := bne_true h2
      exact zk ((orders_CheckAreas_o1 e l) ++ [.dec true]) (And.intro h2 (And.intro (ze S_Item.D e.items) (And.intro (ze I l) (And.intro h1 (And.intro (T_orders_Check e) trivial))))) (by kernel_rfl)
    | false =>
      have g2 := bne_false h2
      cases h5 : orders_CheckAreas_8 e l.l 0 0 with
      | x0 v8_0 =>
        try dsimp only
        have p1 := (po_lr (q := lr_orders_CheckAreas_8 e l) (lp_orders_CheckAreas_8 e l l.l 0 0 (List.drop_zero) (Nat.zero_le _) (by first | assumption | omega | (simp only [z8, GS.some_l, List.length_set, List.length_append, List.length_cons, List.length_nil] at * <;> first | assumption | omega) | (simp only [z9] at * <;> omega) | (simp at * <;> omega)) (by first | assumption | omega | (simp only [z8, GS.some_l, List.length_set, List.length_append, List.length_cons, List.length_nil] at * <;> first | assumption | omega) | (simp only [z9] at * <;> omega) | (simp at * <;> omega))) h5)
        have p2 := (T_orders_within v8_0 e.whole.lo e.whole.hi)
        cases h6 : (zp v8_0 e.whole.lo e.whole.hi) with
        | true =>
          have g6 := within_t h6
          exact zk ((orders_CheckAreas_o1 e l) ++ ((orders_CheckAreas_o2 e l v8_0) ++ [.dec true])) (And.intro h6 (And.intro p2 (And.intro p1 (And.intro (ze I l) (And.intro h2 (And.intro (ze S_Item.D e.items) (And.intro (ze I l) (And.intro h1 (And.intro (T_orders_Check e) trivial))))))))) (by kernel_rfl)
        | false =>
          have g6 := within_f h6
          exact zk ((orders_CheckAreas_o1 e l) ++ ((orders_CheckAreas_o2 e l v8_0) ++ [.dec false])) (And.intro h6 (And.intro p2 (And.intro p1 (And.intro (ze I l) (And.intro h2 (And.intro (ze S_Item.D e.items) (And.intro (ze I l) (And.intro h1 (And.intro (T_orders_Check e) trivial))))))))) (by kernel_rfl)
      | x1 i8 x8 v8_0 =>
        try dsimp only
        exact zk ((orders_CheckAreas_o1 e l) ++ [.dec false, .rw 22 (I ((l.l.length : Nat) : Int)), .loop .ret (sd21 e l i8 x8 v8_0)]) (And.intro (po_lr (q := lr_orders_CheckAreas_8 e l) (lp_orders_CheckAreas_8 e l l.l 0 0 (List.drop_zero) (Nat.zero_le _) (by first | assumption | omega | (simp only [z8, GS.some_l, List.length_set, List.length_append, List.length_cons, List.length_nil] at * <;> first | assumption | omega) | (simp only [z9] at * <;> omega) | (simp at * <;> omega)) (by first | assumption | omega | (simp only [z8, GS.some_l, List.length_set, List.length_append, List.length_cons, List.length_nil] at * <;> first | assumption | omega) | (simp only [z9] at * <;> omega) | (simp at * <;> omega))) h5) (And.intro (ze I l) (And.intro h2 (And.intro (ze S_Item.D e.items) (And.intro (ze I l) (And.intro h1 (And.intro (T_orders_Check e) trivial))))))) (by kernel_rfl)

def z5 (e : S_Estate) (item : Int) : S_Span × Int :=
  bif ((zB e) != 0) then
    ((⟨0, 0⟩ : S_Span), (zB e))
  else
    bif (zp item 0 (w64 (((e.items.l.length : Nat) : Int) - 1))) then
      ((orders_part e item), 0)
    else
      ((⟨0, 0⟩ : S_Span), 1)

def orders_Part_o1 (e : S_Estate) (item : Int) : List Ora := [.pure (I (zB e)), .dec false, .rw 16 (I ((e.items.l.length : Nat) : Int)), .pure (B (zp item 0 (w64 (((e.items.l.length : Nat) : Int) - 1))))]

theorem zw (e : S_Estate) (item : Int) (hL_e_items : e.items.l.length ≤ 9223372036854775807) : (lim cfg).pure 46 [S_Estate.D e, I item] = some (.tup [S_Span.D ((z5 e item).1), I ((z5 e item).2)]) := by
  unfold z5
  cases h1 : ((zB e) != 0) with
  | true =>
    have g1 := bne_true h1
    exact zk [.pure (I (zB e)), .dec true] (And.intro h1 (And.intro (T_orders_Check e) trivial)) (by kernel_rfl)
  | false =>
    have g1 := check_len (bne_false h1)
    have p1 := (T_orders_within item 0 (w64 (((e.items.l.length : Nat) : Int) - 1)))
    cases h2 : (zp item 0 (w64 (((e.items.l.length : Nat) : Int) - 1))) with
    | true =>
      have g2 := within_t h2
      exact zk ((orders_Part_o1 e item) ++ [.dec true, .pure (.agg [I ((orders_part e item).lo), I ((orders_part e item).hi)])]) (And.intro (T_orders_part e item (by first | assumption | omega | (simp only [z8, GS.some_l, List.length_set, List.length_append, List.length_cons, List.length_nil] at * <;> first | assumption | omega) | (simp only [z9] at * <;> omega) | (simp at * <;> omega)) (by first | assumption | omega | (simp only [z8, GS.some_l, List.length_set, List.length_append, List.length_cons, List.length_nil] at * <;> first | assumption | omega) | (simp only [z9] at * <;> omega) | (simp at * <;> omega))) (And.intro h2 (And.intro p1 (And.intro (ze S_Item.D e.items) (And.intro h1 (And.intro (T_orders_Check e) trivial)))))) (by kernel_rfl)
    | false =>
      have g2 := within_f h2
      exact zk ((orders_Part_o1 e item) ++ [.dec false]) (And.intro h2 (And.intro p1 (And.intro (ze S_Item.D e.items) (And.intro h1 (And.intro (T_orders_Check e) trivial))))) (by kernel_rfl)

noncomputable def lp49_4 : Code := subC [1, 1, 1, 0, 1, 0, 0] (bodyC Try.f49)
inductive LR_l_fill_4 where
  | x0 (v4_0 : Int)
def l_fill_4 : List S_Item → Int → LR_l_fill_4
  | [], v4_0 => .x0 v4_0
  | x4 :: rest4, v4_0 =>
    l_fill_4 rest4 (w64 (v4_0 - x4.now.lo))
def lr_l_fill_4 (items : GS S_Item) : LR_l_fill_4 → Exit × St
  | .x0 v4_0 => ((.exit 0), ⟨54, [(16, B false), (0, .sl items.nl (items.l.map S_Item.D) (zsl items.nl 4) none), (5, .sl true [] 0 none), (6, I v4_0), (13, .sl items.nl (items.l.map S_Item.D) (zsl items.nl 4) none), (14, I ((items.l.length : Nat) : Int)), (15, I ((items.l.length : Nat) : Int))], [], 0, 0⟩)
theorem lp_l_fill_4 (items : GS S_Item) : ∀ (rest4 : List S_Item) (i4 : Nat) (v4_0 : Int) (hd4 : items.l.drop i4 = rest4) (hi4 : i4 ≤ items.l.length) (hL4 : items.l.length ≤ 9223372036854775807), (lim cfg).loop 49 lp49_4 ⟨54, [(0, .sl items.nl (items.l.map S_Item.D) (zsl items.nl 4) none), (5, .sl true [] 0 none), (6, I v4_0), (13, .sl items.nl (items.l.map S_Item.D) (zsl items.nl 4) none), (14, I ((items.l.length : Nat) : Int)), (15, I ((i4 : Nat) : Int))], [], 0, 0⟩ = some (lr_l_fill_4 items (l_fill_4 rest4 v4_0)) := by
  intro rest4
  induction rest4 with
  | nil =>
    intro i4 v4_0 hd4 hi4 hL4
    unfold l_fill_4
    obtain rfl : i4 = items.l.length := nil_eq hd4 hi4
    exact zF [.dec false] (And.intro (lt_no hd4) trivial) (by kernel_rfl)
  | cons x4 rest4 ih =>
    intro i4 v4_0 hd4 hi4 hL4
    have hlt4 := lt_nat hd4
    unfold l_fill_4
    exact po_turn [.dec true, .el (.agg [I x4.now.lo, I x4.now.hi, I x4.cost, I x4.error]), .rw 24 (I ((i4 + 1 : Nat) : Int))] (And.intro (inc_rw (i := i4) (by have := lt_nat hd4; omega)) (And.intro (el_at (s := items) (f := S_Item.D) (k := 4) hd4) (And.intro (lt_at hd4) trivial))) (ih (i4 + 1) (w64 (v4_0 - x4.now.lo)) (drop_next hd4) (lt_nat hd4) (by first | assumption | omega | (simp only [z8, GS.some_l, List.length_set, List.length_append, List.length_cons, List.length_nil] at * <;> first | assumption | omega) | (simp only [z9] at * <;> omega) | (simp at * <;> omega))) (by kernel_rfl)

def sd23 (items : GS S_Item) (i9 : Nat) (x9 : S_Item) (va9_0 : List Int) (va9_1 : Int) : St := ⟨54, [(27, I ((i9 + 1 : Nat) : Int)), (52, I ((i9 + 1 : Nat) : Int)), (5, .lsl 3 0 ((va9_0 ++ [w64 (x9.now.lo + (zd (zb va9_1 0) (w64 (x9.now.hi - x9.now.lo))))]).length) 1 none), (51, .lsl 3 0 ((va9_0 ++ [w64 (x9.now.lo + (zd (zb va9_1 0) (w64 (x9.now.hi - x9.now.lo))))]).length) 1 none), (50, .lsl 2 0 1 1 (some 1)), (49, I (w64 (x9.now.lo + (zd (zb va9_1 0) (w64 (x9.now.hi - x9.now.lo)))))), (48, I (zd (zb va9_1 0) (w64 (x9.now.hi - x9.now.lo)))), (47, I x9.now.lo), (46, .lref 1 0 4 0), (45, .lref 1 0 4 0), (44, .lsl 0 0 va9_0.length 1 none), (6, I (w64 (va9_1 - (zd (zb va9_1 0) (w64 (x9.now.hi - x9.now.lo)))))), (43, I (w64 (va9_1 - (zd (zb va9_1 0) (w64 (x9.now.hi - x9.now.lo)))))), (42, I (zd (zb va9_1 0) (w64 (x9.now.hi - x9.now.lo)))), (41, I va9_1), (11, I (zd (zb va9_1 0) (w64 (x9.now.hi - x9.now.lo)))), (40, I (zd (zb va9_1 0) (w64 (x9.now.hi - x9.now.lo)))), (39, I (w64 (x9.now.hi - x9.now.lo))), (38, I x9.now.lo), (37, .lref 1 0 4 0), (36, .lref 1 0 4 0), (35, I x9.now.hi), (34, .lref 1 0 4 1), (33, .lref 1 0 4 0), (32, I (zb va9_1 0)), (31, I va9_1), (10, .lref 1 0 4 0), (30, .agg [I x9.now.lo, I x9.now.hi, I x9.cost, I x9.error]), (29, .ptr (.agg [I x9.now.lo, I x9.now.hi, I x9.cost, I x9.error])), (28, B true), (5, .lsl 0 0 va9_0.length 1 none), (6, I va9_1), (25, .sl items.nl (items.l.map S_Item.D) (zsl items.nl 4) none), (26, I ((items.l.length : Nat) : Int)), (27, I ((i9 : Nat) : Int))], [(1, ⟨[.agg [I x9.now.lo, I x9.now.hi, I x9.cost, I x9.error]], 4, false⟩), (2, ⟨[I (w64 (x9.now.lo + (zd (zb va9_1 0) (w64 (x9.now.hi - x9.now.lo)))))], 1, false⟩), (3, ⟨(va9_0 ++ [w64 (x9.now.lo + (zd (zb va9_1 0) (w64 (x9.now.hi - x9.now.lo))))]).map I, 1, false⟩)], 4, 0⟩

noncomputable def lp49_9 : Code := subC [1, 1, 1, 1, 0, 1, 0, 0] (bodyC Try.f49)
inductive LR_l_fill_9 where
  | x0 (va9_0 : List Int) (va9_1 : Int)
  | x1
def l_fill_9a (v4_0 : Int) : List S_Item → (List Int) → Int → LR_l_fill_9
  | [], va9_0, va9_1 => .x0 va9_0 va9_1
  | x9 :: rest9, va9_0, va9_1 =>
    l_fill_9a v4_0 rest9 (va9_0 ++ [w64 (x9.now.lo + (zd (zb va9_1 0) (w64 (x9.now.hi - x9.now.lo))))]) (w64 (va9_1 - (zd (zb va9_1 0) (w64 (x9.now.hi - x9.now.lo)))))
def l_fill_9 (v4_0 : Int) : List S_Item → LR_l_fill_9
  | [] => .x1
  | x9 :: rest9 =>
    l_fill_9a v4_0 rest9 [w64 (x9.now.lo + (zd (zb v4_0 0) (w64 (x9.now.hi - x9.now.lo))))] (w64 (v4_0 - (zd (zb v4_0 0) (w64 (x9.now.hi - x9.now.lo)))))
def lr_l_fill_9 (items : GS S_Item) (v4_0 : Int) : LR_l_fill_9 → Exit × St
  | .x0 va9_0 va9_1 => ((.exit 2), ⟨54, [(28, B false), (5, .lsl 0 0 va9_0.length 1 none), (6, I va9_1), (25, .sl items.nl (items.l.map S_Item.D) (zsl items.nl 4) none), (26, I ((items.l.length : Nat) : Int)), (27, I ((items.l.length : Nat) : Int))], [(0, ⟨va9_0.map I, 1, false⟩)], 1, 0⟩)
  | .x1 => ((.exit 2), ⟨54, [(28, B false), (5, .sl true [] 0 none), (6, I v4_0), (25, .sl items.nl (items.l.map S_Item.D) (zsl items.nl 4) none), (26, I ((items.l.length : Nat) : Int)), (27, I ((items.l.length : Nat) : Int))], [], 0, 0⟩)
def iv_l_fill_9 (items : GS S_Item) (v4_0 : Int) : LR_l_fill_9 → Prop
  | .x0 va9_0 va9_1 => (va9_0.length ≤ items.l.length)
  | .x1 => True
theorem lp_l_fill_9a (items : GS S_Item) (v4_0 : Int) : ∀ (rest9 : List S_Item) (i9 : Nat) (va9_0 : List Int) (va9_1 : Int) (hd9 : items.l.drop i9 = rest9) (hi9 : i9 ≤ items.l.length) (hg9_va9_0 : va9_0.length ≤ i9) (hL9 : items.l.length ≤ 1099511627776), (lim cfg).loop 49 lp49_9 ⟨54, [(5, .lsl 0 0 va9_0.length 1 none), (6, I va9_1), (25, .sl items.nl (items.l.map S_Item.D) (zsl items.nl 4) none), (26, I ((items.l.length : Nat) : Int)), (27, I ((i9 : Nat) : Int))], [(0, ⟨va9_0.map I, 1, false⟩)], 1, 0⟩ = some (lr_l_fill_9 items v4_0 (l_fill_9a v4_0 rest9 va9_0 va9_1)) := by
  intro rest9
  induction rest9 with
  | nil =>
    intro i9 va9_0 va9_1 hd9 hi9 hg9_va9_0 hL9
    unfold l_fill_9a
    obtain rfl : i9 = items.l.length := nil_eq hd9 hi9
    exact zF [.dec false] (And.intro (lt_no hd9) trivial) (by kernel_rfl)
  | cons x9 rest9 ih =>
    intro i9 va9_0 va9_1 hd9 hi9 hg9_va9_0 hL9
    have hlt9 := lt_nat hd9
    unfold l_fill_9a
    exact po_turn' (ks := [5, 6, 25, 26, 27]) (st' := (sd23 items i9 x9 va9_0 va9_1)) [.dec true, .el (.agg [I x9.now.lo, I x9.now.hi, I x9.cost, I x9.error]), .op (some 51) ⟨.lsl 3 0 ((va9_0 ++ [w64 (x9.now.lo + (zd (zb va9_1 0) (w64 (x9.now.hi - x9.now.lo))))]).length) 1 none, [(0, none), (3, some ⟨(va9_0 ++ [w64 (x9.now.lo + (zd (zb va9_1 0) (w64 (x9.now.hi - x9.now.lo))))]).map I, 1, false⟩)], [0, 2], 4⟩, .rw 52 (I ((i9 + 1 : Nat) : Int))] (And.intro (inc_rw (i := i9) (by have := lt_nat hd9; omega)) (And.intro (app_row (f := I) (te := ty3) (gO := zt [(0, ⟨va9_0.map I, 1, false⟩), (1, ⟨[.agg [I x9.now.lo, I x9.now.hi, I x9.cost, I x9.error]], 4, false⟩), (2, ⟨[I (w64 (x9.now.lo + (zd (zb va9_1 0) (w64 (x9.now.hi - x9.now.lo)))))], 1, false⟩)]) (nxt := 3) (o := 0) (o2 := 2) (fz := false) eok_I va9_0 (w64 (x9.now.lo + (zd (zb va9_1 0) (w64 (x9.now.hi - x9.now.lo))))) (by kernel_rfl) (by kernel_rfl) rfl (by kernel_rfl) (by decide) ⟨by simp only [ty3, big] <;> (first | assumption | omega | (simp only [z8, GS.some_l, List.length_set, List.length_append, List.length_cons, List.length_nil] at * <;> first | assumption | omega) | (simp only [z9] at * <;> omega) | (simp at * <;> omega)), by simp only [big] <;> (first | assumption | omega | (simp only [z8, GS.some_l, List.length_set, List.length_append, List.length_cons, List.length_nil] at * <;> first | assumption | omega) | (simp only [z9] at * <;> omega) | (simp at * <;> omega))⟩) (And.intro (el_at (s := items) (f := S_Item.D) (k := 4) hd9) (And.intro (lt_at hd9) trivial)))) (by kernel_rfl) (by (simp only [sd23, go_sem, Nat.reduceAdd, Nat.reduceEqDiff, Nat.reduceLT, Nat.reduceLeDiff, bI2, eok_I.idsL, eok_I.renL, eok_I.snapAll, zh.idsL, zh.renL, zh.snapAll]) <;> rfl) (ih (i9 + 1) (va9_0 ++ [w64 (x9.now.lo + (zd (zb va9_1 0) (w64 (x9.now.hi - x9.now.lo))))]) (w64 (va9_1 - (zd (zb va9_1 0) (w64 (x9.now.hi - x9.now.lo))))) (drop_next hd9) (lt_nat hd9) (by first | assumption | omega | (simp only [z8, GS.some_l, List.length_set, List.length_append, List.length_cons, List.length_nil] at * <;> first | assumption | omega) | (simp only [z9] at * <;> omega) | (simp at * <;> omega)) (by first | assumption | omega | (simp only [z8, GS.some_l, List.length_set, List.length_append, List.length_cons, List.length_nil] at * <;> first | assumption | omega) | (simp only [z9] at * <;> omega) | (simp at * <;> omega))) (by kernel_rfl)
theorem ivt_l_fill_9a (items : GS S_Item) (v4_0 : Int) : ∀ (rest9 : List S_Item) (i9 : Nat) (va9_0 : List Int) (va9_1 : Int) (hd9 : items.l.drop i9 = rest9) (hi9 : i9 ≤ items.l.length) (hg9_va9_0 : va9_0.length ≤ i9) (hL9 : items.l.length ≤ 1099511627776), iv_l_fill_9 items v4_0 (l_fill_9a v4_0 rest9 va9_0 va9_1) := by
  intro rest9
  induction rest9 with
  | nil =>
    intro i9 va9_0 va9_1 hd9 hi9 hg9_va9_0 hL9
    unfold l_fill_9a
    obtain rfl : i9 = items.l.length := nil_eq hd9 hi9
    exact hg9_va9_0
  | cons x9 rest9 ih =>
    intro i9 va9_0 va9_1 hd9 hi9 hg9_va9_0 hL9
    have hlt9 := lt_nat hd9
    unfold l_fill_9a
    exact ih (i9 + 1) (va9_0 ++ [w64 (x9.now.lo + (zd (zb va9_1 0) (w64 (x9.now.hi - x9.now.lo))))]) (w64 (va9_1 - (zd (zb va9_1 0) (w64 (x9.now.hi - x9.now.lo))))) (drop_next hd9) (lt_nat hd9) (by first | assumption | omega | (simp only [z8, GS.some_l, List.length_set, List.length_append, List.length_cons, List.length_nil] at * <;> first | assumption | omega) | (simp only [z9] at * <;> omega) | (simp at * <;> omega)) (by first | assumption | omega | (simp only [z8, GS.some_l, List.length_set, List.length_append, List.length_cons, List.length_nil] at * <;> first | assumption | omega) | (simp only [z9] at * <;> omega) | (simp at * <;> omega))
theorem lp_l_fill_9 (items : GS S_Item) (v4_0 : Int) : ∀ (rest9 : List S_Item) (i9 : Nat) (hd9 : items.l.drop i9 = rest9) (hi9 : i9 ≤ items.l.length) (hL9 : items.l.length ≤ 1099511627776), (lim cfg).loop 49 lp49_9 ⟨54, [(5, .sl true [] 0 none), (6, I v4_0), (25, .sl items.nl (items.l.map S_Item.D) (zsl items.nl 4) none), (26, I ((items.l.length : Nat) : Int)), (27, I ((i9 : Nat) : Int))], [], 0, 0⟩ = some (lr_l_fill_9 items v4_0 (l_fill_9 v4_0 rest9)) := by
  intro rest9
  induction rest9 with
  | nil =>
    intro i9 hd9 hi9 hL9
    unfold l_fill_9
    obtain rfl : i9 = items.l.length := nil_eq hd9 hi9
    exact zF [.dec false] (And.intro (lt_no hd9) trivial) (by kernel_rfl)
  | cons x9 rest9 ih =>
    intro i9 hd9 hi9 hL9
    have hlt9 := lt_nat hd9
    unfold l_fill_9
    exact po_turn [.dec true, .el (.agg [I x9.now.lo, I x9.now.hi, I x9.cost, I x9.error]), .rw 52 (I ((i9 + 1 : Nat) : Int))] (And.intro (inc_rw (i := i9) (by have := lt_nat hd9; omega)) (And.intro (el_at (s := items) (f := S_Item.D) (k := 4) hd9) (And.intro (lt_at hd9) trivial))) (lp_l_fill_9a items v4_0 _ (i9 + 1) [w64 (x9.now.lo + (zd (zb v4_0 0) (w64 (x9.now.hi - x9.now.lo))))] (w64 (v4_0 - (zd (zb v4_0 0) (w64 (x9.now.hi - x9.now.lo))))) (drop_next hd9) (lt_nat hd9) (by first | assumption | omega | (simp only [z8, GS.some_l, List.length_set, List.length_append, List.length_cons, List.length_nil] at * <;> first | assumption | omega) | (simp only [z9] at * <;> omega) | (simp at * <;> omega)) (by first | assumption | omega | (simp only [z8, GS.some_l, List.length_set, List.length_append, List.length_cons, List.length_nil] at * <;> first | assumption | omega) | (simp only [z9] at * <;> omega) | (simp at * <;> omega))) (by kernel_rfl)
theorem ivt_l_fill_9 (items : GS S_Item) (v4_0 : Int) : ∀ (rest9 : List S_Item) (i9 : Nat) (hd9 : items.l.drop i9 = rest9) (hi9 : i9 ≤ items.l.length) (hL9 : items.l.length ≤ 1099511627776), iv_l_fill_9 items v4_0 (l_fill_9 v4_0 rest9) := by
  intro rest9
  induction rest9 with
  | nil =>
    intro i9 hd9 hi9 hL9
    unfold l_fill_9
    obtain rfl : i9 = items.l.length := nil_eq hd9 hi9
    exact trivial
  | cons x9 rest9 ih =>
    intro i9 hd9 hi9 hL9
    have hlt9 := lt_nat hd9
    unfold l_fill_9
    exact ivt_l_fill_9a items v4_0 _ (i9 + 1) [w64 (x9.now.lo + (zd (zb v4_0 0) (w64 (x9.now.hi - x9.now.lo))))] (w64 (v4_0 - (zd (zb v4_0 0) (w64 (x9.now.hi - x9.now.lo))))) (drop_next hd9) (lt_nat hd9) (by first | assumption | omega | (simp only [z8, GS.some_l, List.length_set, List.length_append, List.length_cons, List.length_nil] at * <;> first | assumption | omega) | (simp only [z9] at * <;> omega) | (simp at * <;> omega)) (by first | assumption | omega | (simp only [z8, GS.some_l, List.length_set, List.length_append, List.length_cons, List.length_nil] at * <;> first | assumption | omega) | (simp only [z9] at * <;> omega) | (simp at * <;> omega))

def zc (items : GS S_Item) (sum : Int) : (GS Int) :=
  match l_fill_4 items.l sum with
  | .x0 v4_0 =>
    match l_fill_9 v4_0 items.l with
    | .x0 va9_0 va9_1 =>
      GS.some va9_0
    | .x1 =>
      GS.nil

def sd22 (items : GS S_Item) (v4_0 : Int) : St := ⟨54, [(16, B false), (0, .sl items.nl (items.l.map S_Item.D) (zsl items.nl 4) none), (5, .sl true [] 0 none), (6, I v4_0), (13, .sl items.nl (items.l.map S_Item.D) (zsl items.nl 4) none), (14, I ((items.l.length : Nat) : Int)), (15, I ((items.l.length : Nat) : Int))], [], 0, 0⟩

def sd24 (items : GS S_Item) (va9_0 : List Int) (va9_1 : Int) : St := ⟨54, [(28, B false), (5, .lsl 0 0 va9_0.length 1 none), (6, I va9_1), (25, .sl items.nl (items.l.map S_Item.D) (zsl items.nl 4) none), (26, I ((items.l.length : Nat) : Int)), (27, I ((items.l.length : Nat) : Int))], [(0, ⟨va9_0.map I, 1, false⟩)], 1, 0⟩

def sd25 (items : GS S_Item) (v4_0 : Int) : St := ⟨54, [(28, B false), (5, .sl true [] 0 none), (6, I v4_0), (25, .sl items.nl (items.l.map S_Item.D) (zsl items.nl 4) none), (26, I ((items.l.length : Nat) : Int)), (27, I ((items.l.length : Nat) : Int))], [], 0, 0⟩

theorem T_l_fill (items : GS S_Item) (sum : Int) (hL_items : items.l.length ≤ 1099511627776) : (lim cfg).pure 49 [GS.D S_Item.D 4 items, I sum] = some (GS.D I 1 (zc items sum)) := by
  unfold zc
  cases h1 : l_fill_4 items.l sum with
  | x0 v4_0 =>
    try dsimp only
    cases h2 : l_fill_9 v4_0 items.l with
    | x0 va9_0 va9_1 =>
      try dsimp only
      have hv_h2 := ivt_l_fill_9 items v4_0 items.l 0 (List.drop_zero) (Nat.zero_le _) (by first | assumption | omega | (simp only [z8, GS.some_l, List.length_set, List.length_append, List.length_cons, List.length_nil] at * <;> first | assumption | omega) | (simp only [z9] at * <;> omega) | (simp at * <;> omega))
      rw [h2] at hv_h2
      have hv_h2_0 := hv_h2
      try dsimp only [iv_l_fill_9] at hv_h2_0
      exact po_pureS [.rw 14 (I ((items.l.length : Nat) : Int)), .loop (.exit 0) (sd22 items v4_0), .rw 26 (I ((items.l.length : Nat) : Int)), .loop (.exit 2) (sd24 items va9_0 va9_1)] [(0, .sl false (va9_0.map I) 1 none, [0])] (And.intro (snap_row (gO := zt [(0, ⟨va9_0.map I, 1, false⟩)]) (o := 0) (len := va9_0.length) (cap := none) (fz := false) eok_I va9_0 (by kernel_rfl) (by first | assumption | omega | (simp only [z8, GS.some_l, List.length_set, List.length_append, List.length_cons, List.length_nil] at * <;> first | assumption | omega) | (simp only [z9] at * <;> omega) | (simp at * <;> omega))) (And.intro (po_lr (q := lr_l_fill_9 items v4_0) (lp_l_fill_9 items v4_0 items.l 0 (List.drop_zero) (Nat.zero_le _) (by first | assumption | omega | (simp only [z8, GS.some_l, List.length_set, List.length_append, List.length_cons, List.length_nil] at * <;> first | assumption | omega) | (simp only [z9] at * <;> omega) | (simp at * <;> omega))) h2) (And.intro (ze S_Item.D items) (And.intro (po_lr (q := lr_l_fill_4 items) (lp_l_fill_4 items items.l 0 sum (List.drop_zero) (Nat.zero_le _) (by first | assumption | omega | (simp only [z8, GS.some_l, List.length_set, List.length_append, List.length_cons, List.length_nil] at * <;> first | assumption | omega) | (simp only [z9] at * <;> omega) | (simp at * <;> omega))) h1) (And.intro (ze S_Item.D items) trivial))))) (by kernel_rfl)
    | x1 =>
      try dsimp only
      exact zk [.rw 14 (I ((items.l.length : Nat) : Int)), .loop (.exit 0) (sd22 items v4_0), .rw 26 (I ((items.l.length : Nat) : Int)), .loop (.exit 2) (sd25 items v4_0)] (And.intro (po_lr (q := lr_l_fill_9 items v4_0) (lp_l_fill_9 items v4_0 items.l 0 (List.drop_zero) (Nat.zero_le _) (by first | assumption | omega | (simp only [z8, GS.some_l, List.length_set, List.length_append, List.length_cons, List.length_nil] at * <;> first | assumption | omega) | (simp only [z9] at * <;> omega) | (simp at * <;> omega))) h2) (And.intro (ze S_Item.D items) (And.intro (po_lr (q := lr_l_fill_4 items) (lp_l_fill_4 items items.l 0 sum (List.drop_zero) (Nat.zero_le _) (by first | assumption | omega | (simp only [z8, GS.some_l, List.length_set, List.length_append, List.length_cons, List.length_nil] at * <;> first | assumption | omega) | (simp only [z9] at * <;> omega) | (simp at * <;> omega))) h1) (And.intro (ze S_Item.D items) trivial)))) (by kernel_rfl)

theorem fill_some {items : GS S_Item} {sum : Int} (h : 1 ≤ items.l.length) : (zc items sum).nl = false := by
  have key : ∀ (l : List S_Item) (v : List Int) (n : Int) (z : Int), ∃ a b, l_fill_9a z l v n = .x0 a b := by
    intro l
    induction l with
    | nil => intro v n z; exact ⟨v, n, rfl⟩
    | cons x l ih => intro v n z; exact ih _ _ z
  unfold zc
  split
  cases hl : items.l with
  | nil => rw [hl] at h; simp at h
  | cons x l =>
    simp only [l_fill_9]
    obtain ⟨a, b, h⟩ := key l [w64 (x.now.lo + (zd (zb _ 0) (w64 (x.now.hi - x.now.lo))))] (w64 (_ - (zd (zb _ 0) (w64 (x.now.hi - x.now.lo))))) _
    rw [h]
    rfl

theorem z8 {items : GS S_Item} {sum : Int} : (zc items sum).l.length = items.l.length := by
  have key : ∀ (l : List S_Item) (v : List Int) (n : Int) (z : Int), ∃ a b, l_fill_9a z l v n = .x0 a b ∧ a.length = v.length + l.length := by
    intro l
    induction l with
    | nil => intro v n z; exact ⟨v, n, rfl, by simp⟩
    | cons x l ih => intro v n z; obtain ⟨a, b, h1, h2⟩ := ih _ _ z; exact ⟨a, b, h1, by rw [h2]; simp; omega⟩
  unfold zc
  split
  cases hl : items.l with
  | nil => rfl
  | cons x l =>
    simp only [l_fill_9]
    obtain ⟨a, b, h, h2⟩ := key l [w64 (x.now.lo + (zd (zb _ 0) (w64 (x.now.hi - x.now.lo))))] (w64 (_ - (zd (zb _ 0) (w64 (x.now.hi - x.now.lo))))) _
    rw [h]
    simp [GS.some, h2]
    omega
end Go.VS
/-
  Orders: what an estate's functions come to, in plain numbers. (A text of this claim's own; nothing of it is trusted.)
-/
namespace Go.VS
def sLo : List S_Item → Int
  | [] => 0
  | x :: l => x.now.lo + sLo l
def sHi : List S_Item → Int
  | [] => 0
  | x :: l => x.now.hi + sHi l
def OkItem (x : S_Item) : Prop := 0 ≤ x.now.lo ∧ x.now.lo ≤ x.now.hi ∧ x.now.hi ≤ 1073741824 ∧ 0 ≤ x.cost ∧ x.cost ≤ 10000 ∧ 0 ≤ x.error ∧ x.error ≤ 1048576
def OkSpans (l : List S_Item) : Prop := ∀ x ∈ l, 0 ≤ x.now.lo ∧ x.now.lo ≤ x.now.hi ∧ x.now.hi ≤ 1073741824
structure V (e : S_Estate) : Prop where
  n1 : 1 ≤ e.items.l.length
  n2 : e.items.l.length ≤ 12
  w0 : 0 ≤ e.whole.lo
  w1 : e.whole.lo ≤ e.whole.hi
  w2 : e.whole.hi ≤ 17179869184
  it : ∀ x ∈ e.items.l, OkItem x
  lo : sLo e.items.l ≤ e.whole.hi
  hi : e.whole.lo ≤ sHi e.items.l
theorem okSpans_of {l : List S_Item} (h : ∀ x ∈ l, OkItem x) : OkSpans l := fun x hx => ⟨(h x hx).1, (h x hx).2.1, (h x hx).2.2.1⟩
theorem V.sp {e : S_Estate} (h : V e) : OkSpans e.items.l := okSpans_of h.it
theorem sums_bd {l : List S_Item} (h : OkSpans l) : 0 ≤ sLo l ∧ sLo l ≤ sHi l ∧ sHi l ≤ 1073741824 * (l.length : Int) := by
  induction l with
  | nil => simp [sLo, sHi]
  | cons x l ih =>
    have h1 := ih fun y hy => h y (List.mem_cons_of_mem _ hy)
    have h2 := h x List.mem_cons_self
    simp only [sLo, sHi, List.length_cons]
    omega
theorem all2_eq {l : List S_Item} (h : OkSpans l) : ∀ (a b : Int), 0 ≤ a → 0 ≤ b → a + 1073741824 * (l.length : Int) ≤ 4611686018427387904 → b + 1073741824 * (l.length : Int) ≤ 4611686018427387904 → orders_all_2 l a b = .x0 (a + sLo l) (b + sHi l) := by
  induction l with
  | nil => intro a b _ _ _ _; simp [orders_all_2, sLo, sHi]
  | cons x l ih =>
    intro a b h1 h2 h3 h4
    have hx := h x List.mem_cons_self
    simp only [List.length_cons] at h3 h4
    unfold orders_all_2
    rw [w64_eq (by omega) (by omega), w64_eq (by omega) (by omega), ih (fun y hy => h y (List.mem_cons_of_mem _ hy)) _ _ (by omega) (by omega) (by omega) (by omega)]
    simp only [sLo, sHi]
    congr 1 <;> omega
theorem rall2_eq (l : List S_Item) : ∀ (a b : Int), ∃ c d, r_All_3 l a b = .x0 c d ∧ orders_all_2 l a b = .x0 c d := by
  induction l with
  | nil => intro a b; exact ⟨a, b, rfl, rfl⟩
  | cons x l ih => intro a b; exact ih _ _
theorem rall_eq (e : S_Estate) : r_All e = zj e := by
  obtain ⟨c, d, h1, h2⟩ := rall2_eq e.items.l 0 0
  unfold r_All zj
  rw [h1, h2]
theorem all_eq {e : S_Estate} (h : OkSpans e.items.l) (hn : e.items.l.length ≤ 12) : zj e = ⟨sLo e.items.l, sHi e.items.l⟩ := by
  unfold zj
  rw [all2_eq h 0 0 (by omega) (by omega) (by omega) (by omega)]
  simp
theorem span_iff {x : S_Span} {m : Int} : orders_span x m = true ↔ 0 ≤ x.lo ∧ x.lo ≤ x.hi ∧ x.hi ≤ m := by
  unfold orders_span
  simp only [Bool.cond_decide]
  split
  · split
    · split
      · simp; omega
      · simp; omega
    · simp; omega
  · simp; omega
theorem within_iff {n lo hi : Int} : zp n lo hi = true ↔ lo ≤ n ∧ n ≤ hi := by simp [within_eq]
theorem common_eq (x y : S_Span) : zv x y = (⟨max x.lo y.lo, min x.hi y.hi⟩, decide (max x.lo y.lo ≤ min x.hi y.hi)) := by
  unfold zv
  rw [imax_eq, imin_eq]
  cases decide (max x.lo y.lo ≤ min x.hi y.hi) <;> rfl
theorem check4_iff {l : List S_Item} {i : Nat} : orders_Check_4 l i = .x0 ↔ ∀ x ∈ l, OkItem x := by
  induction l generalizing i with
  | nil => simp [orders_Check_4]
  | cons x l ih =>
    unfold orders_Check_4
    simp only [List.forall_mem_cons]
    cases h1 : orders_span x.now 1073741824 with
    | false =>
      simp only [cond_false]
      constructor
      · intro h; cases h
      · rintro ⟨h, _⟩; rw [span_iff.2 ⟨h.1, h.2.1, h.2.2.1⟩] at h1; cases h1
    | true =>
      cases h2 : zp x.cost 0 10000 with
      | false =>
        simp only [cond_false, cond_true]
        constructor
        · intro h; cases h
        · rintro ⟨h, _⟩; rw [within_iff.2 ⟨h.2.2.2.1, h.2.2.2.2.1⟩] at h2; cases h2
      | true =>
        cases h3 : zp x.error 0 1048576 with
        | false =>
          simp only [cond_false, cond_true]
          constructor
          · intro h; cases h
          · rintro ⟨h, _⟩; rw [within_iff.2 ⟨h.2.2.2.2.2.1, h.2.2.2.2.2.2⟩] at h3; cases h3
        | true =>
          simp only [cond_true, ih]
          have a1 := span_iff.1 h1
          have a2 := within_iff.1 h2
          have a3 := within_iff.1 h3
          exact ⟨fun h => ⟨⟨a1.1, a1.2.1, a1.2.2, a2.1, a2.2, a3.1, a3.2⟩, h⟩, fun h => h.2⟩
theorem check_cases (e : S_Estate) : zB e = 0 ∨ zB e = 80 := by
  unfold zB
  cases zp ((e.items.l.length : Nat) : Int) 1 12 <;> cases orders_span e.whole 17179869184 <;> simp only [cond_true, cond_false] <;> try (exact .inr trivial)
  split <;> first | (exact .inr rfl) | skip
  cases (zv (zj e) e.whole).2 <;> simp
theorem check_iff {e : S_Estate} : zB e = 0 ↔ V e := by
  unfold zB
  cases h1 : zp ((e.items.l.length : Nat) : Int) 1 12 with
  | false =>
    simp only [cond_false]
    refine ⟨fun h => by omega, fun h => ?_⟩
    rw [within_iff.2 ⟨by have := h.n1; omega, by have := h.n2; omega⟩] at h1; cases h1
  | true =>
    have a1 := within_iff.1 h1
    cases h2 : orders_span e.whole 17179869184 with
    | false =>
      simp only [cond_false, cond_true]
      refine ⟨fun h => by omega, fun h => ?_⟩
      rw [span_iff.2 ⟨h.w0, h.w1, h.w2⟩] at h2; cases h2
    | true =>
      have a2 := span_iff.1 h2
      simp only [cond_true]
      by_cases h3 : orders_Check_4 e.items.l 0 = .x0
      · have a3 := check4_iff.1 h3
        rw [h3, common_eq, all_eq (okSpans_of a3) (by omega)]
        simp only []
        have hb := sums_bd (okSpans_of a3)
        by_cases h4 : max (sLo e.items.l) e.whole.lo ≤ min (sHi e.items.l) e.whole.hi
        · simp only [h4, decide_true, cond_true, true_iff]
          exact ⟨by omega, by omega, a2.1, a2.2.1, a2.2.2, a3, by omega, by omega⟩
        · simp only [h4, decide_false, cond_false]
          refine ⟨fun h => by omega, fun h => absurd ?_ h4⟩
          have := h.lo; have := h.hi; have := h.w1
          omega
      · constructor
        · intro h
          exfalso
          split at h
          · rename_i h5; exact h3 h5
          all_goals omega
        · intro h; exact absurd (check4_iff.2 h.it) h3
theorem valid4_iff {l : List S_Item} {i : Nat} : r_Valid_4 l i = .x0 ↔ ∀ x ∈ l, OkItem x := by
  induction l generalizing i with
  | nil => simp [r_Valid_4]
  | cons x l ih =>
    unfold r_Valid_4
    simp only [List.forall_mem_cons, Bool.cond_decide, OkItem]
    repeat' split
    all_goals first
      | (constructor
         · intro h; cases h
         · intro h; exfalso; omega)
      | (rw [ih]
         constructor
         · intro h; exact ⟨by omega, h⟩
         · intro h; exact h.2)
theorem valid_iff {e : S_Estate} : r_Valid e = true ↔ V e := by
  unfold r_Valid
  simp only [Bool.cond_decide]
  constructor
  · intro h
    split at h
    · cases h
    split at h
    · cases h
    split at h
    · cases h
    split at h
    · cases h
    split at h
    · cases h
    split at h
    · rename_i h1 h2 h3 h4 h5 h6
      have a3 := valid4_iff.1 h6
      rw [rall_eq, all_eq (okSpans_of a3) (by omega)] at h
      simp only [] at h
      split at h
      · split at h
        · exact ⟨by omega, by omega, by omega, by omega, by omega, a3, by omega, by omega⟩
        · cases h
      · cases h
    all_goals cases h
  · intro h
    have := h.n1; have := h.n2; have := h.w0; have := h.w1; have := h.w2
    rw [if_neg (by omega), if_neg (by omega), if_neg (by omega), if_neg (by omega), if_neg (by omega), valid4_iff.2 h.it]
    simp only [rall_eq, all_eq h.sp h.n2]
    rw [if_pos h.lo, if_pos h.hi]
theorem check_valid (e : S_Estate) : zB e = if r_Valid e then 0 else 80 := by
  rcases check_cases e with h | h
  · rw [if_pos (valid_iff.2 (check_iff.1 h)), h]
  · rw [if_neg (fun hv => by have := check_iff.2 (valid_iff.1 hv); omega), h]
/-! ### allowed areas -/
def tot : List Int → Int
  | [] => 0
  | x :: l => x + tot l
/-- Areas within the items' spans. -/
def In : List S_Item → List Int → Prop
  | [], [] => True
  | x :: l, b :: a => (x.now.lo ≤ b ∧ b ≤ x.now.hi) ∧ In l a
  | _, _ => False
theorem In.len : ∀ {l : List S_Item} {a : List Int}, In l a → a.length = l.length
  | [], [], _ => rfl
  | [], _ :: _, h => h.elim
  | _ :: _, [], h => h.elim
  | x :: l, b :: a, h => by simp only [List.length_cons, h.2.len]
theorem In.bd : ∀ {l : List S_Item} {a : List Int}, In l a → sLo l ≤ tot a ∧ tot a ≤ sHi l
  | [], [], _ => ⟨Int.le_refl _, Int.le_refl _⟩
  | [], _ :: _, h => h.elim
  | _ :: _, [], h => h.elim
  | x :: l, b :: a, h => by have := h.2.bd; have := h.1; simp only [sLo, sHi, tot]; omega
def Allowed (e : S_Estate) (a : List Int) : Prop := In e.items.l a ∧ e.whole.lo ≤ tot a ∧ tot a ≤ e.whole.hi
theorem drop_at {α : Type} [Inhabited α] {s : GS α} {i : Nat} {x : α} {l : List α} (h : s.l.drop i = x :: l) : s.at ((i : Nat) : Int) = x := at_of h
/-- The loop over areas. -/
theorem areas8 {e : S_Estate} (hs : OkSpans e.items.l) (hn : e.items.l.length ≤ 12) : ∀ (a : List Int) (i : Nat) (l : List S_Item) (n : Int), e.items.l.drop i = l → a.length = l.length → 0 ≤ n → n + 1073741824 * (l.length : Int) ≤ 4611686018427387904 →
    (In l a → orders_CheckAreas_8 e a i n = .x0 (n + tot a)) ∧ (¬ In l a → ∃ j x m, orders_CheckAreas_8 e a i n = .x1 j x m)
  | [], i, [], n, _, _, _, _ => ⟨fun _ => by simp [orders_CheckAreas_8, tot], fun h => (h trivial).elim⟩
  | [], _, _ :: _, _, _, h, _, _ => by simp at h
  | _ :: _, _, [], _, _, h, _, _ => by simp at h
  | b :: a, i, x :: l, n, hd, hl, h0, h1 => by
    have hx := drop_at hd
    have hm : x ∈ e.items.l := mem_drop hd
    have hb := hs x hm
    simp only [List.length_cons] at h1 hl
    unfold orders_CheckAreas_8
    rw [hx]
    cases hw : zp b x.now.lo x.now.hi with
    | false =>
      simp only [cond_false]
      have hn' : ¬ (x.now.lo ≤ b ∧ b ≤ x.now.hi) := fun h => by rw [within_iff.2 h] at hw; cases hw
      exact ⟨fun h => absurd h.1 hn', fun _ => ⟨_, _, _, rfl⟩⟩
    | true =>
      have hw' := within_iff.1 hw
      simp only [cond_true]
      rw [w64_eq (by omega) (by omega)]
      have ih := areas8 hs hn a (i + 1) l (n + b) (drop_next hd) (by omega) (by omega) (by omega)
      refine ⟨fun h => ?_, fun h => ih.2 fun h2 => h ⟨hw', h2⟩⟩
      rw [ih.1 h.2]
      simp only [tot]
      congr 1
      omega
theorem areas_iff {e : S_Estate} (h : V e) (a : GS Int) : (z7 e a = 0 ↔ Allowed e a.l) ∧ (z7 e a = 0 ∨ z7 e a = 80) := by
  unfold z7
  rw [check_iff.2 h]
  have h2 := h.n2
  cases hl : (((a.l.length : Nat) : Int) != ((e.items.l.length : Nat) : Int)) with
  | true =>
    have := bne_true hl
    simp only [bne_self_eq_false, cond_false, cond_true]
    exact ⟨⟨fun h => by omega, fun h => by have := h.1.len; omega⟩, .inr trivial⟩
  | false =>
    have hl' := bne_false hl
    simp only [bne_self_eq_false, cond_false]
    have k := areas8 h.sp h2 a.l 0 e.items.l 0 List.drop_zero (by omega) (by omega) (by omega)
    by_cases hin : In e.items.l a.l
    · rw [k.1 hin]
      simp only [Int.zero_add]
      cases hw : zp (tot a.l) e.whole.lo e.whole.hi with
      | true => exact ⟨⟨fun _ => ⟨hin, within_iff.1 hw⟩, fun _ => rfl⟩, .inl rfl⟩
      | false => exact ⟨⟨fun h => by simp at h, fun h => by rw [within_iff.2 h.2] at hw; cases hw⟩, .inr rfl⟩
    · obtain ⟨j, x, m, hj⟩ := k.2 hin
      rw [hj]
      exact ⟨⟨fun h => by simp at h, fun h => absurd h.1 hin⟩, .inr rfl⟩
/-- Areas of a sum. -/
def fillL : List S_Item → Int → List Int
  | [], _ => []
  | x :: l, r => (x.now.lo + min (max r 0) (x.now.hi - x.now.lo)) :: fillL l (r - min (max r 0) (x.now.hi - x.now.lo))
theorem fill4_eq {l : List S_Item} (h : OkSpans l) : ∀ (n : Int), -1152921504606846976 + 1073741824 * (l.length : Int) ≤ n → n ≤ 1152921504606846976 → l_fill_4 l n = .x0 (n - sLo l) := by
  induction l with
  | nil => intro n _ _; simp [l_fill_4, sLo]
  | cons x l ih =>
    intro n h1 h2
    have hx := h x List.mem_cons_self
    simp only [List.length_cons] at h1
    unfold l_fill_4
    rw [w64_eq (by omega) (by omega), ih (fun y hy => h y (List.mem_cons_of_mem _ hy)) _ (by omega) (by omega)]
    simp only [sLo]
    congr 1
    omega
theorem fill9a_eq {l : List S_Item} (h : OkSpans l) (z : Int) : ∀ (v : List Int) (n : Int), -2305843009213693952 + 1073741824 * (l.length : Int) ≤ n → n ≤ 2305843009213693952 → ∃ m, l_fill_9a z l v n = .x0 (v ++ fillL l n) m := by
  induction l with
  | nil => intro v n _ _; exact ⟨n, by simp [l_fill_9a, fillL]⟩
  | cons x l ih =>
    intro v n h1 h2
    have hx := h x List.mem_cons_self
    simp only [List.length_cons] at h1
    unfold l_fill_9a
    rw [imax_eq, imin_eq, w64_eq (n := x.now.hi - x.now.lo) (by omega) (by omega), w64_eq (by omega) (by omega), w64_eq (by omega) (by omega)]
    obtain ⟨m, hm⟩ := ih (fun y hy => h y (List.mem_cons_of_mem _ hy)) (v ++ [x.now.lo + min (max n 0) (x.now.hi - x.now.lo)]) (n - min (max n 0) (x.now.hi - x.now.lo)) (by omega) (by omega)
    exact ⟨m, by rw [hm]; simp [fillL]⟩
theorem fill_eq {s : GS S_Item} (h : OkSpans s.l) (hn : s.l.length ≤ 12) {n : Int} (h0 : -1152921504606846976 + 1073741824 * (s.l.length : Int) ≤ n) (h1 : n ≤ 1152921504606846976) : (zc s n).l = fillL s.l (n - sLo s.l) := by
  unfold zc
  rw [fill4_eq h n h0 h1]
  simp only []
  have hb := sums_bd h
  cases hl : s.l with
  | nil => rfl
  | cons x l =>
    rw [hl] at h hn hb h0
    have hx := h x List.mem_cons_self
    simp only [List.length_cons] at hn h0 hb
    simp only [l_fill_9]
    rw [imax_eq, imin_eq, w64_eq (n := x.now.hi - x.now.lo) (by omega) (by omega), w64_eq (by omega) (by omega), w64_eq (by omega) (by omega)]
    obtain ⟨m, hm⟩ := fill9a_eq (fun y hy => h y (List.mem_cons_of_mem _ hy)) (n - sLo (x :: l)) [x.now.lo + min (max (n - sLo (x :: l)) 0) (x.now.hi - x.now.lo)] (n - sLo (x :: l) - min (max (n - sLo (x :: l)) 0) (x.now.hi - x.now.lo)) (by omega) (by omega)
    rw [hm]
    rfl
theorem fillL_ok {l : List S_Item} (h : OkSpans l) : ∀ {r : Int}, 0 ≤ r → r ≤ sHi l - sLo l → In l (fillL l r) ∧ tot (fillL l r) = sLo l + r := by
  induction l with
  | nil => intro r h0 h1; simp only [sLo, sHi] at h1; simp only [fillL, In, tot, sLo]; exact ⟨trivial, by omega⟩
  | cons x l ih =>
    intro r h0 h1
    have hx := h x List.mem_cons_self
    have hb := sums_bd (fun y hy => h y (List.mem_cons_of_mem _ hy) : OkSpans l)
    simp only [sLo, sHi] at h1
    have := ih (fun y hy => h y (List.mem_cons_of_mem _ hy)) (r := r - min (max r 0) (x.now.hi - x.now.lo)) (by omega) (by omega)
    simp only [fillL, In, tot, sLo]
    exact ⟨⟨by omega, this.1⟩, by omega⟩
/-- What the sum of all can be. -/
def loS (e : S_Estate) : Int := max (sLo e.items.l) e.whole.lo
def hiS (e : S_Estate) : Int := min (sHi e.items.l) e.whole.hi
theorem sum_eq {e : S_Estate} (h : V e) : z6 e = (⟨loS e, hiS e⟩, 0) := by
  unfold z6
  rw [check_iff.2 h, common_eq, all_eq h.sp h.n2]
  have hb := sums_bd h.sp
  have := h.lo; have := h.hi; have := h.w1
  have h4 : max (sLo e.items.l) e.whole.lo ≤ min (sHi e.items.l) e.whole.hi := by omega
  simp [h4, loS, hiS]
theorem loS_hiS {e : S_Estate} (h : V e) : loS e ≤ hiS e := by
  have hb := sums_bd h.sp
  have := h.lo; have := h.hi; have := h.w1
  unfold loS hiS
  omega
/-- What an item's area can be. -/
def loP (e : S_Estate) (x : S_Item) : Int := max x.now.lo (e.whole.lo - (sHi e.items.l - x.now.hi))
def hiP (e : S_Estate) (x : S_Item) : Int := min x.now.hi (e.whole.hi - (sLo e.items.l - x.now.lo))
theorem part_eq {e : S_Estate} (h : V e) {i : Int} {x : S_Item} (hx : e.items.at i = x) (hm : x ∈ e.items.l) : orders_part e i = ⟨loP e x, hiP e x⟩ := by
  unfold orders_part
  rw [hx, common_eq, all_eq h.sp h.n2]
  have hb := sums_bd h.sp
  have h2 := h.n2; have := h.w0; have := h.w1; have := h.w2
  have h3 := h.sp x hm
  simp only []
  rw [w64_eq (n := sHi e.items.l - x.now.hi) (by omega) (by omega), w64_eq (n := sLo e.items.l - x.now.lo) (by omega) (by omega), w64_eq (by omega) (by omega), w64_eq (by omega) (by omega)]
  cases decide (max x.now.lo (e.whole.lo - (sHi e.items.l - x.now.hi)) ≤ min x.now.hi (e.whole.hi - (sLo e.items.l - x.now.lo))) <;> rfl
theorem at_mem {α : Type} [Inhabited α] {s : GS α} {i : Int} (h0 : 0 ≤ i) (h1 : i < (s.l.length : Int)) : s.at i ∈ s.l := by
  have hlt : i.toNat < s.l.length := by omega
  rw [GS.at, List.getD_eq_getElem?_getD, List.getElem?_eq_getElem hlt]
  exact List.getElem_mem hlt
theorem partF_eq {e : S_Estate} (h : V e) {i : Int} (h0 : 0 ≤ i) (h1 : i < (e.items.l.length : Int)) : z5 e i = (⟨loP e (e.items.at i), hiP e (e.items.at i)⟩, 0) := by
  unfold z5
  have := h.n2
  rw [check_iff.2 h, w64_eq (by omega) (by omega), within_iff.2 ⟨h0, by omega⟩, part_eq h rfl (at_mem h0 h1)]
  rfl
end Go.VS
/-
  Orders: estates closed; areas at the ends of what can be. (A text of this claim's own; nothing of it is trusted.)
-/
namespace Go.VS
def pt (e : S_Estate) (x : S_Item) : S_Item := ⟨⟨loP e x, hiP e x⟩, x.cost, x.error⟩
def clo (e : S_Estate) : S_Estate := ⟨GS.some (e.items.l.map (pt e)), ⟨loS e, hiS e⟩⟩
theorem clo_items (e : S_Estate) : (clo e).items.l = e.items.l.map (pt e) := rfl
theorem parts_in {e : S_Estate} : ∀ (l : List S_Item) (a : List Int) (pl ph pa : Int), In l a → pl ≤ pa → pa ≤ ph → pl + sLo l = sLo e.items.l → ph + sHi l = sHi e.items.l → e.whole.lo ≤ pa + tot a → pa + tot a ≤ e.whole.hi → In (l.map (pt e)) a
  | [], [], _, _, _, _, _, _, _, _, _, _ => trivial
  | [], _ :: _, _, _, _, h, _, _, _, _, _, _ => h.elim
  | _ :: _, [], _, _, _, h, _, _, _, _, _, _ => h.elim
  | x :: l, b :: a, pl, ph, pa, h, h1, h2, h3, h4, h5, h6 => by
    have hb := h.2.bd
    have hx := h.1
    simp only [sLo, sHi, tot] at h3 h4 h5 h6
    simp only [List.map_cons, In, pt, loP, hiP]
    exact ⟨⟨by omega, by omega⟩, parts_in l a (pl + x.now.lo) (ph + x.now.hi) (pa + b) h.2 (by omega) (by omega) (by omega) (by omega) (by omega) (by omega)⟩
theorem allowed_in {e : S_Estate} {a : List Int} (h : Allowed e a) : In (clo e).items.l a ∧ loS e ≤ tot a ∧ tot a ≤ hiS e := by
  have hb := h.1.bd
  have := h.2
  exact ⟨parts_in e.items.l a 0 0 0 h.1 (by omega) (by omega) (by omega) (by omega) (by omega) (by omega), by unfold loS; omega, by unfold hiS; omega⟩
theorem in_wide {e : S_Estate} : ∀ {l : List S_Item} {a : List Int}, In (l.map (pt e)) a → In l a
  | [], [], _ => trivial
  | [], _ :: _, h => h.elim
  | _ :: _, [], h => h.elim
  | x :: l, b :: a, h => by
    have h1 := h.1
    simp only [pt, loP, hiP] at h1
    exact ⟨by omega, in_wide h.2⟩
theorem fill_allowed {e : S_Estate} (h : V e) {s : Int} (h0 : loS e ≤ s) (h1 : s ≤ hiS e) : Allowed e (fillL e.items.l (s - sLo e.items.l)) ∧ tot (fillL e.items.l (s - sLo e.items.l)) = s := by
  unfold loS at h0
  unfold hiS at h1
  obtain ⟨k1, k2⟩ := fillL_ok h.sp (r := s - sLo e.items.l) (by omega) (by omega)
  have : tot (fillL e.items.l (s - sLo e.items.l)) = s := by rw [k2]; omega
  exact ⟨⟨k1, by omega, by omega⟩, this⟩
theorem in_all {l : List S_Item} : ∀ {a : List Int}, In l a → ∀ x ∈ l, x.now.lo ≤ x.now.hi := by
  induction l with
  | nil => intro a _ x hx; cases hx
  | cons y l ih =>
    intro a h x hx
    cases a with
    | nil => exact h.elim
    | cons b a =>
      rcases List.mem_cons.1 hx with rfl | hx
      · have := h.1; omega
      · exact ih h.2 x hx
theorem clo_V {e : S_Estate} (h : V e) : V (clo e) := by
  obtain ⟨k1, k2⟩ := fill_allowed h (Int.le_refl _) (loS_hiS h)
  obtain ⟨k3, k4, k5⟩ := allowed_in k1
  have k6 := k3.bd
  have hb := sums_bd h.sp
  have := h.lo; have := h.hi; have := h.w0; have := h.w1; have := h.w2
  refine ⟨by rw [clo_items, List.length_map]; exact h.n1, by rw [clo_items, List.length_map]; exact h.n2, ?_, loS_hiS h, ?_, ?_, ?_, ?_⟩
  · show 0 ≤ loS e
    unfold loS; omega
  · show hiS e ≤ _
    unfold hiS; omega
  · intro x hx
    have hm := in_all k3 x hx
    rw [clo_items] at hx
    obtain ⟨y, hy, rfl⟩ := List.mem_map.1 hx
    obtain ⟨a1, a2, a3, a4, a5, a6, a7⟩ := h.it y hy
    simp only [pt, loP, hiP] at hm
    exact ⟨by simp only [pt, loP]; omega, hm, by simp only [pt, hiP]; omega, a4, a5, a6, a7⟩
  · show sLo (clo e).items.l ≤ hiS e
    omega
  · show loS e ≤ sHi (clo e).items.l
    omega
/-- One item at a number. -/
def put (l : List S_Item) (i : Nat) (y : Int) : List S_Item := l.set i ⟨⟨y, y⟩, (l.getD i default).cost, (l.getD i default).error⟩
theorem put_sums : ∀ {l : List S_Item} {i : Nat} {x z : S_Item}, l[i]? = some x → sLo (l.set i z) = sLo l - x.now.lo + z.now.lo ∧ sHi (l.set i z) = sHi l - x.now.hi + z.now.hi
  | [], i, x, z, h => by simp at h
  | w :: l, 0, x, z, h => by simp at h; subst h; simp only [List.set_cons_zero, sLo, sHi]; omega
  | w :: l, i + 1, x, z, h => by
    have := put_sums (z := z) (by simpa using h : l[i]? = some x)
    simp only [List.set_cons_succ, sLo, sHi]
    omega
theorem in_put : ∀ {l : List S_Item} {i : Nat} {x z : S_Item} {a : List Int} {y : Int}, l[i]? = some x → z.now.lo = y → z.now.hi = y → x.now.lo ≤ y → y ≤ x.now.hi → In (l.set i z) a → In l a ∧ a[i]? = some y
  | [], i, x, z, a, y, h, _, _, _, _, _ => by simp at h
  | w :: l, 0, x, z, [], y, h, _, _, _, _, hi => hi.elim
  | w :: l, 0, x, z, b :: a, y, h, h1, h2, h3, h4, hi => by
    simp at h; subst h
    simp only [List.set_cons_zero, In] at hi
    obtain ⟨h5, h6⟩ := hi
    exact ⟨⟨by omega, h6⟩, by simp; omega⟩
  | w :: l, i + 1, x, z, [], y, h, _, _, _, _, hi => hi.elim
  | w :: l, i + 1, x, z, b :: a, y, h, h1, h2, h3, h4, hi => by
    simp only [List.set_cons_succ, In] at hi
    have := in_put (by simpa using h : l[i]? = some x) h1 h2 h3 h4 hi.2
    exact ⟨⟨hi.1, this.1⟩, by simpa using this.2⟩
theorem put_spans {l : List S_Item} {i : Nat} {y : Int} (h : OkSpans l) (h0 : 0 ≤ y) (h1 : y ≤ 1073741824) : OkSpans (put l i y) := by
  intro x hx
  rcases List.mem_or_eq_of_mem_set hx with hx | rfl
  · exact h x hx
  · exact ⟨h0, Int.le_refl _, h1⟩
/-- The sum that is spread over the items, one being at a number. -/
def clampS (e : S_Estate) (l : List S_Item) : Int := min (max (sLo l) e.whole.lo) (sHi l)
theorem put_allowed {e : S_Estate} (h : V e) {i : Nat} {x : S_Item} (hx : e.items.l[i]? = some x) {y : Int} (h0 : loP e x ≤ y) (h1 : y ≤ hiP e x) :
    Allowed e (fillL (put e.items.l i y) (clampS e (put e.items.l i y) - sLo (put e.items.l i y))) ∧ (fillL (put e.items.l i y) (clampS e (put e.items.l i y) - sLo (put e.items.l i y)))[i]? = some y := by
  have hm : x ∈ e.items.l := List.mem_of_getElem? hx
  have hs := h.sp x hm
  unfold loP at h0
  unfold hiP at h1
  have ho := put_spans (i := i) h.sp (y := y) (by omega) (by omega)
  obtain ⟨e1, e2⟩ := put_sums (z := ⟨⟨y, y⟩, (e.items.l.getD i default).cost, (e.items.l.getD i default).error⟩) hx
  have hb := sums_bd ho
  have e1' : sLo (put e.items.l i y) = sLo e.items.l - x.now.lo + y := e1
  have e2' : sHi (put e.items.l i y) = sHi e.items.l - x.now.hi + y := e2
  have hw := h.w1
  obtain ⟨k1, k2⟩ := fillL_ok ho (r := clampS e (put e.items.l i y) - sLo (put e.items.l i y)) (by unfold clampS; omega) (by unfold clampS; omega)
  obtain ⟨k3, k4⟩ := in_put (y := y) hx rfl rfl (by omega) (by omega) k1
  refine ⟨⟨k3, ?_, ?_⟩, k4⟩
  · rw [k2]; unfold clampS; omega
  · rw [k2]; unfold clampS; omega
theorem in_at : ∀ {l : List S_Item} {a : List Int} {i : Nat} {x : S_Item} {y : Int}, In l a → l[i]? = some x → a[i]? = some y → (x.now.lo ≤ y ∧ y ≤ x.now.hi) ∧ tot a - y ≤ sHi l - x.now.hi ∧ sLo l - x.now.lo ≤ tot a - y
  | [], _, _, _, _, _, h, _ => by simp at h
  | _ :: _, [], _, _, _, h, _, _ => h.elim
  | w :: l, b :: a, 0, x, y, h, h1, h2 => by
    simp at h1 h2; subst h1 h2
    have hb := h.2.bd
    simp only [sHi, sLo, tot]
    exact ⟨h.1, by omega, by omega⟩
  | w :: l, b :: a, i + 1, x, y, h, h1, h2 => by
    have k := in_at h.2 (by simpa using h1 : l[i]? = some x) (by simpa using h2 : a[i]? = some y)
    have := h.1
    simp only [sHi, sLo, tot]
    exact ⟨k.1, by omega, by omega⟩
theorem pt_le {e : S_Estate} (h : V e) {x : S_Item} (hx : x ∈ e.items.l) : loP e x ≤ hiP e x := by
  obtain ⟨k1, k2⟩ := fill_allowed h (Int.le_refl _) (loS_hiS h)
  have := in_all (allowed_in k1).1 (pt e x) (by rw [clo_items]; exact List.mem_map.2 ⟨x, hx, rfl⟩)
  exact this
/-- Closed again it is the same. -/
theorem clo_clo {e : S_Estate} (h : V e) : clo (clo e) = clo e := by
  have hV := clo_V h
  have e1 : loS (clo e) = loS e := by
    obtain ⟨k1, k2⟩ := fill_allowed h (Int.le_refl _) (loS_hiS h)
    have := (allowed_in k1).1.bd
    show max (sLo (clo e).items.l) (loS e) = loS e
    omega
  have e2 : hiS (clo e) = hiS e := by
    obtain ⟨k1, k2⟩ := fill_allowed h (loS_hiS h) (Int.le_refl _)
    have := (allowed_in k1).1.bd
    show min (sHi (clo e).items.l) (hiS e) = hiS e
    omega
  have e3 : ∀ x ∈ e.items.l, pt (clo e) (pt e x) = pt e x := by
    intro x hx
    obtain ⟨i, hi⟩ := List.mem_iff_getElem?.1 hx
    have hi' : (clo e).items.l[i]? = some (pt e x) := by rw [clo_items, List.getElem?_map, hi]; rfl
    have hle := pt_le h hx
    have a1 : loP (clo e) (pt e x) = loP e x := by
      obtain ⟨k1, k2⟩ := put_allowed h hi (Int.le_refl _) hle
      have k3 := allowed_in k1
      have k4 := in_at k3.1 hi' k2
      show max (loP e x) (loS e - (sHi (clo e).items.l - hiP e x)) = loP e x
      simp only [pt] at k4
      omega
    have a2 : hiP (clo e) (pt e x) = hiP e x := by
      obtain ⟨k1, k2⟩ := put_allowed h hi hle (Int.le_refl _)
      have k3 := allowed_in k1
      have k4 := in_at k3.1 hi' k2
      show min (hiP e x) (hiS e - (sLo (clo e).items.l - loP e x)) = hiP e x
      simp only [pt] at k4
      omega
    show (⟨⟨loP (clo e) (pt e x), hiP (clo e) (pt e x)⟩, x.cost, x.error⟩ : S_Item) = _
    rw [a1, a2]; rfl
  show (⟨GS.some ((e.items.l.map (pt e)).map (pt (clo e))), ⟨loS (clo e), hiS (clo e)⟩⟩ : S_Estate) = ⟨GS.some (e.items.l.map (pt e)), ⟨loS e, hiS e⟩⟩
  rw [e1, e2, List.map_map]
  congr 2
  exact List.map_congr_left fun x hx => e3 x hx
theorem closed6_eq {e : S_Estate} (h : V e) : ∀ (l : List S_Item) (i : Nat) (v : List S_Item), e.items.l.drop i = l → v.length = e.items.l.length → v.drop i = l → orders_Closed_6 e l i v = .x0 (v.take i ++ l.map (pt e))
  | [], i, v, hd, hl, hv => by
    have := List.drop_eq_nil_iff.1 hv
    simp [orders_Closed_6, List.take_of_length_le this]
  | x :: l, i, v, hd, hl, hv => by
    have hlt : i < v.length := by
      rcases Nat.lt_or_ge i v.length with hh | hh
      · exact hh
      · rw [List.drop_eq_nil_of_le hh] at hv; cases hv
    have hx : v[i]? = some x := by rw [← List.head?_drop, hv]; rfl
    have hg : v.getD i default = x := by rw [List.getD_eq_getElem?_getD, hx]; rfl
    unfold orders_Closed_6
    rw [part_eq h (at_of hd) (mem_drop hd), hg, closed6_eq h l (i + 1) _ (drop_next hd) (by rw [List.length_set]; exact hl) (by rw [List.drop_set_of_lt (by omega)]; exact drop_next hv)]
    rw [List.take_set, List.take_add_one, hx]
    have : (List.take i v ++ (some x).toList).set i (⟨⟨loP e x, hiP e x⟩, x.cost, x.error⟩ : S_Item) = List.take i v ++ [pt e x] := by
      rw [List.set_append_right _ _ (by simp; omega)]
      have : (i - (List.take i v).length) = 0 := by simp; omega
      rw [this]; rfl
    rw [this]
    simp
theorem closed_eq {e : S_Estate} (h : V e) : za e = (clo e, 0) := by
  unfold za
  rw [sum_eq h, closed6_eq h e.items.l 0 e.items.l List.drop_zero rfl List.drop_zero]
  rfl
theorem same4_self {b : S_Estate} : ∀ (l : List S_Item) (i : Nat), b.items.l.drop i = l → r_Same_4 b l i = .x0
  | [], _, _ => rfl
  | x :: l, i, hd => by
    unfold r_Same_4
    rw [at_of hd]
    simp only [beq_self_eq_true, Bool.and_self, Bool.not_true, cond_false]
    exact same4_self l (i + 1) (drop_next hd)
theorem same_self (b : S_Estate) : r_Same b b = true := by
  unfold r_Same
  rw [same4_self b.items.l 0 List.drop_zero]
  simp
theorem areas_clo {e : S_Estate} (h : V e) (a : GS Int) : z7 e a = z7 (clo e) a := by
  have h1 := areas_iff h a
  have h2 := areas_iff (clo_V h) a
  have key : Allowed e a.l ↔ Allowed (clo e) a.l := by
    constructor
    · exact fun k => allowed_in k
    · intro k
      refine ⟨in_wide (by have := k.1; rwa [clo_items] at this), ?_, ?_⟩
      · have : loS e ≤ tot a.l := k.2.1
        unfold loS at this; omega
      · have : tot a.l ≤ hiS e := k.2.2
        unfold hiS at this; omega
  rcases h1.2 with k | k <;> rcases h2.2 with k' | k' <;> rw [k, k']
  · have := h2.1.2 (key.1 (h1.1.1 k)); omega
  · have := h1.1.2 (key.2 (h2.1.1 k')); omega
theorem fill_check {e : S_Estate} (h : V e) {s : Int} (h0 : loS e ≤ s) (h1 : s ≤ hiS e) : z7 e (zc e.items s) = 0 := by
  have hb := sums_bd h.sp
  have h2 := h.n2; have := h.w0; have := h.w2
  refine (areas_iff h _).1.2 ?_
  rw [fill_eq h.sp h2 (by unfold loS at h0; omega) (by unfold hiS at h1; omega)]
  exact (fill_allowed h h0 h1).1
theorem put_check {e : S_Estate} (h : V e) {i : Nat} {x : S_Item} (hx : e.items.l[i]? = some x) {y : Int} (h0 : loP e x ≤ y) (h1 : y ≤ hiP e x) :
    z7 e (zc (GS.some (put e.items.l i y)) (clampS e (put e.items.l i y))) = 0 := by
  have hm : x ∈ e.items.l := List.mem_of_getElem? hx
  have hs := h.sp x hm
  have h2 := h.n2; have := h.w0; have := h.w2; have := h.w1
  have ho := put_spans (i := i) h.sp (y := y) (by unfold loP at h0; omega) (by unfold hiP at h1; omega)
  have hb := sums_bd ho
  have hl : (put e.items.l i y).length = e.items.l.length := by unfold put; rw [List.length_set]
  refine (areas_iff h _).1.2 ?_
  rw [fill_eq (s := GS.some (put e.items.l i y)) ho (by show (put e.items.l i y).length ≤ 12; omega) (by show _ + 1073741824 * ((put e.items.l i y).length : Int) ≤ _; unfold clampS; omega) (by unfold clampS; omega)]
  exact (put_allowed h hx h0 h1).1
end Go.VS
