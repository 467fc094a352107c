/- Nothing of a statement is proved in this text alone: it is part 6 of the proof's own tools, an evaluator of the code over deep values, its soundness, and what it makes of this seat's functions. Conditions: none beyond the statement's own. -/
import Derived.Test.YtnifoeahomkdlaaVsOFz5
import Derived.Test.YtnifoeahomkdlaaRows
import Derived.WalkKit
import Derived.ProofKit
import Derived.Deep.DeepHandedRow
import Derived.Lib.LaidTab
set_option linter.unusedSimpArgs false
set_option linter.unusedVariables false
namespace Go.VS
open Go Go.Proofs
set_option maxHeartbeats 0
set_option linter.unusedSimpArgs false
set_option linter.unusedVariables false
theorem tm_ne {e : S_Estate} (hv : zV e = true) : ((((z6 e).1.l.length : Nat) : Int)) ≠ 0 := by have := (steps_at (zI.1 hv)).2.1; omega

noncomputable def lp4_24 : Code := subC [1, 1, 1, 1, 1, 1, 1, 1, 1, 1, 1, 0, 1, 0, 0] (bodyC Try.f4)

inductive LR_l_OrdersCheap_24 where
  | x0
  | x1 (i24 : Nat) (x24 : Arr2_Int)
  | x2 (i24 : Nat) (x24 : Arr2_Int)
instance : Inhabited LR_l_OrdersCheap_24 := ⟨.x0⟩
def yh (q24_0 : GS Arr2_Int) : List Arr2_Int → Nat → LR_l_OrdersCheap_24
  | [], i24 => .x0
  | x24 :: rest24, i24 =>
    bif decide (((i24 : Nat) : Int) > 0) then
      bif decide (((GS.at q24_0 (w64 (((i24 : Nat) : Int) - 1))).x0) ≥ x24.x0) then
        .x1 i24 x24
      else
        bif decide (((GS.at q24_0 (w64 (((i24 : Nat) : Int) - 1))).x1) ≤ x24.x1) then
          .x2 i24 x24
        else
          yh q24_0 rest24 (i24 + 1)
    else
      yh q24_0 rest24 (i24 + 1)
def lr_l_OrdersCheap_24 (e : S_Estate) (step : Int) (q24_0 : GS Arr2_Int) : LR_l_OrdersCheap_24 → Exit × St
  | .x0 => ((.exit 0), ⟨297, [(184, B false), (3, I step), (4, .lref 0 0 3 0), (17, .sl q24_0.nl (q24_0.l.map Arr2_Int.D) (zsl q24_0.nl 2) none), (181, .sl q24_0.nl (q24_0.l.map Arr2_Int.D) (zsl q24_0.nl 2) none), (182, I ((q24_0.l.length : Nat) : Int)), (183, I ((q24_0.l.length : Nat) : Int))], [(0, ⟨[.agg [.sl e.items.nl (e.items.l.map S_Item.D) (zsl e.items.nl 4) none, I e.whole.lo, I e.whole.hi]], 3, false⟩)], 1, 0⟩)
  | .x1 i24 x24 => (.ret, ⟨297, [(8, B false), (211, B true), (210, B true), (209, .tup []), (208, .tup []), (207, .tup []), (206, .tup []), (205, .tup []), (204, .tup []), (203, .tup []), (202, .tup []), (201, .tup []), (200, B true), (199, B true), (198, I x24.x0), (197, .lref 1 0 2 0), (196, I ((GS.at q24_0 (w64 (((i24 : Nat) : Int) - 1))).x0)), (195, .ptr (I ((GS.at q24_0 (w64 (((i24 : Nat) : Int) - 1))).x0))), (194, .ptr (.agg [I ((GS.at q24_0 (w64 (((i24 : Nat) : Int) - 1))).x0), I ((GS.at q24_0 (w64 (((i24 : Nat) : Int) - 1))).x1)])), (193, I (w64 (((i24 : Nat) : Int) - 1))), (192, I ((i24 : Nat) : Int)), (191, .sl q24_0.nl (q24_0.l.map Arr2_Int.D) (zsl q24_0.nl 2) none), (190, B true), (189, B true), (188, I ((i24 : Nat) : Int)), (26, I ((i24 : Nat) : Int)), (27, .lref 1 0 2 0), (187, .agg [I x24.x0, I x24.x1]), (186, .ptr (.agg [I x24.x0, I x24.x1])), (185, I ((i24 : Nat) : Int)), (184, B true), (3, I step), (4, .lref 0 0 3 0), (17, .sl q24_0.nl (q24_0.l.map Arr2_Int.D) (zsl q24_0.nl 2) none), (181, .sl q24_0.nl (q24_0.l.map Arr2_Int.D) (zsl q24_0.nl 2) none), (182, I ((q24_0.l.length : Nat) : Int)), (183, I ((i24 : Nat) : Int))], [(0, ⟨[.agg [.sl e.items.nl (e.items.l.map S_Item.D) (zsl e.items.nl 4) none, I e.whole.lo, I e.whole.hi]], 3, false⟩), (1, ⟨[.agg [I x24.x0, I x24.x1]], 2, false⟩)], 2, 0⟩)
  | .x2 i24 x24 => (.ret, ⟨297, [(8, B false), (211, B true), (210, B true), (209, B true), (208, I x24.x1), (207, .lref 1 0 2 1), (206, I ((GS.at q24_0 (w64 (((i24 : Nat) : Int) - 1))).x1)), (205, .ptr (I ((GS.at q24_0 (w64 (((i24 : Nat) : Int) - 1))).x1))), (204, .ptr (.agg [I ((GS.at q24_0 (w64 (((i24 : Nat) : Int) - 1))).x0), I ((GS.at q24_0 (w64 (((i24 : Nat) : Int) - 1))).x1)])), (203, I (w64 (((i24 : Nat) : Int) - 1))), (202, I ((i24 : Nat) : Int)), (201, .sl q24_0.nl (q24_0.l.map Arr2_Int.D) (zsl q24_0.nl 2) none), (200, B false), (199, B false), (198, I x24.x0), (197, .lref 1 0 2 0), (196, I ((GS.at q24_0 (w64 (((i24 : Nat) : Int) - 1))).x0)), (195, .ptr (I ((GS.at q24_0 (w64 (((i24 : Nat) : Int) - 1))).x0))), (194, .ptr (.agg [I ((GS.at q24_0 (w64 (((i24 : Nat) : Int) - 1))).x0), I ((GS.at q24_0 (w64 (((i24 : Nat) : Int) - 1))).x1)])), (193, I (w64 (((i24 : Nat) : Int) - 1))), (192, I ((i24 : Nat) : Int)), (191, .sl q24_0.nl (q24_0.l.map Arr2_Int.D) (zsl q24_0.nl 2) none), (190, B true), (189, B true), (188, I ((i24 : Nat) : Int)), (26, I ((i24 : Nat) : Int)), (27, .lref 1 0 2 0), (187, .agg [I x24.x0, I x24.x1]), (186, .ptr (.agg [I x24.x0, I x24.x1])), (185, I ((i24 : Nat) : Int)), (184, B true), (3, I step), (4, .lref 0 0 3 0), (17, .sl q24_0.nl (q24_0.l.map Arr2_Int.D) (zsl q24_0.nl 2) none), (181, .sl q24_0.nl (q24_0.l.map Arr2_Int.D) (zsl q24_0.nl 2) none), (182, I ((q24_0.l.length : Nat) : Int)), (183, I ((i24 : Nat) : Int))], [(0, ⟨[.agg [.sl e.items.nl (e.items.l.map S_Item.D) (zsl e.items.nl 4) none, I e.whole.lo, I e.whole.hi]], 3, false⟩), (1, ⟨[.agg [I x24.x0, I x24.x1]], 2, false⟩)], 2, 0⟩)
def l_OrdersCheap_24_l_o1 (i24 : Nat) (q24_0 : GS Arr2_Int) (x24 : Arr2_Int) : List Ora := [.dec true, .el (.agg [I x24.x0, I x24.x1]), .dec true, .el (.agg [I ((GS.at q24_0 (w64 (((i24 : Nat) : Int) - 1))).x0), I ((GS.at q24_0 (w64 (((i24 : Nat) : Int) - 1))).x1)])]
def l_OrdersCheap_24_l_o2 (i24 : Nat) (q24_0 : GS Arr2_Int) : List Ora := [.dec false, .el (.agg [I ((GS.at q24_0 (w64 (((i24 : Nat) : Int) - 1))).x0), I ((GS.at q24_0 (w64 (((i24 : Nat) : Int) - 1))).x1)])]
theorem lp_l_OrdersCheap_24 (e : S_Estate) (step : Int) (q24_0 : GS Arr2_Int) : ∀ (rest24 : List Arr2_Int) (i24 : Nat) (hd24 : q24_0.l.drop i24 = rest24) (hi24 : i24 ≤ q24_0.l.length) (hL24 : q24_0.l.length ≤ 9223372036854775807), (lim cfg).loop 4 lp4_24 ⟨297, [(3, I step), (4, .lref 0 0 3 0), (17, .sl q24_0.nl (q24_0.l.map Arr2_Int.D) (zsl q24_0.nl 2) none), (181, .sl q24_0.nl (q24_0.l.map Arr2_Int.D) (zsl q24_0.nl 2) none), (182, I ((q24_0.l.length : Nat) : Int)), (183, I ((i24 : Nat) : Int))], [(0, ⟨[.agg [.sl e.items.nl (e.items.l.map S_Item.D) (zsl e.items.nl 4) none, I e.whole.lo, I e.whole.hi]], 3, false⟩)], 1, 0⟩ = some (lr_l_OrdersCheap_24 e step q24_0 (yh q24_0 rest24 i24)) := by
  intro rest24
  induction rest24 with
  | nil =>
    intro i24 hd24 hi24 hL24
    unfold yh
    obtain rfl : i24 = q24_0.l.length := nil_eq hd24 hi24
    exact zS [.dec false] (And.intro (lt_no hd24) trivial) (by kernel_rfl)
  | cons x24 rest24 ih =>
    intro i24 hd24 hi24 hL24
    have hlt24 := zt hd24
    unfold yh
    have p1 := (el_at (s := q24_0) (f := Arr2_Int.D) (k := 2) hd24)
    cases h9 : decide (((i24 : Nat) : Int) > 0) with
    | true =>
      have g9 := of_decide_eq_true h9
      have p2 := (el_in (s := q24_0) (f := Arr2_Int.D) (k := 2) (i := w64 (((i24 : Nat) : Int) - 1)) (by simp only [List.length_append, List.length_cons, List.length_nil, zr] at * <;> omega) (by simp only [List.length_append, List.length_cons, List.length_nil, zr] at * <;> omega))
      cases h10 : decide (((GS.at q24_0 (w64 (((i24 : Nat) : Int) - 1))).x0) ≥ x24.x0) with
      | true =>
        have g10 := of_decide_eq_true h10
        exact zS ((l_OrdersCheap_24_l_o1 i24 q24_0 x24) ++ [.dec true]) (And.intro h10 (And.intro p2 (And.intro h9 (And.intro p1 (And.intro (lt_at hd24) trivial))))) (by kernel_rfl)
      | false =>
        have g10 := of_decide_eq_false h10
        have p3 := (el_in (s := q24_0) (f := Arr2_Int.D) (k := 2) (i := w64 (((i24 : Nat) : Int) - 1)) (by omega) (by simp only [List.length_append, List.length_cons, List.length_nil, zr] at * <;> omega))
        cases h11 : decide (((GS.at q24_0 (w64 (((i24 : Nat) : Int) - 1))).x1) ≤ x24.x1) with
        | true =>
          have g11 := of_decide_eq_true h11
          exact zS ((l_OrdersCheap_24_l_o1 i24 q24_0 x24) ++ ((l_OrdersCheap_24_l_o2 i24 q24_0) ++ [.dec true])) (And.intro h11 (And.intro p3 (And.intro h10 (And.intro p2 (And.intro h9 (And.intro p1 (And.intro (lt_at hd24) trivial))))))) (by kernel_rfl)
        | false =>
          have g11 := of_decide_eq_false h11
          exact po_turn ((l_OrdersCheap_24_l_o1 i24 q24_0 x24) ++ ((l_OrdersCheap_24_l_o2 i24 q24_0) ++ [.dec false, .rw 212 (I ((i24 + 1 : Nat) : Int))])) (And.intro (zX (i := i24) (by have := zt hd24; omega)) (And.intro h11 (And.intro p3 (And.intro h10 (And.intro p2 (And.intro h9 (And.intro p1 (And.intro (lt_at hd24) trivial)))))))) (ih (i24 + 1) (zA hd24) (zt hd24) (by omega)) (by kernel_rfl)
    | false =>
      have g9 := of_decide_eq_false h9
      exact po_turn [.dec true, .el (.agg [I x24.x0, I x24.x1]), .dec false, .rw 212 (I ((i24 + 1 : Nat) : Int))] (And.intro (zX (i := i24) (by have := zt hd24; omega)) (And.intro h9 (And.intro p1 (And.intro (lt_at hd24) trivial)))) (ih (i24 + 1) (zA hd24) (zt hd24) (by omega)) (by kernel_rfl)

theorem l_OrdersCheap_24_go {s : GS Arr2_Int} (hs : ∀ i j (hi : i < s.l.length) (hj : j < s.l.length), i < j → (s.l[i]).x0 < (s.l[j]).x0 ∧ (s.l[j]).x1 < (s.l[i]).x1) (hl : s.l.length ≤ 4096) : ∀ (l : List Arr2_Int) (i : Nat), s.l.drop i = l → yh s l i = .x0
  | [], i, _ => rfl
  | x :: l, i, h => by
    have hlt := zt h
    have hnx := l_OrdersCheap_24_go hs hl l (i + 1) (by rw [← List.drop_drop, h]; rfl)
    unfold yh
    cases c1 : decide (((i : Nat) : Int) > 0) with
    | false => exact hnx
    | true =>
      have d1 := of_decide_eq_true c1
      have e : s.at (w64 ((i : Int) - 1)) = s.l[i - 1] := by
        rw [yi (by omega) (by omega)]
        show s.l.getD ((i : Int) - 1).toNat default = _
        rw [show ((i : Int) - 1).toNat = i - 1 from by omega, getD_of_lt (by omega)]
      have ex : s.l[i] = x := by
        have : s.l[i]? = some x := by rw [← List.head?_drop, h]; rfl
        rw [List.getElem?_eq_getElem hlt] at this
        exact Option.some.inj this
      have := hs (i - 1) i (by omega) hlt (by omega)
      rw [ex] at this
      rw [e, decide_eq_false (by omega), decide_eq_false (by omega)]
      exact hnx
theorem l_OrdersCheap_24_all {e : S_Estate} (hv : zV e = true) : yh (z6 e).1 (z6 e).1.l 0 = .x0 := l_OrdersCheap_24_go (steps_at (zI.1 hv)).2.2.2.1 (steps_len e) _ 0 rfl

def l_OrdersCheap (e : S_Estate) (items : GS Int) (width : Int) (step : Int) : Bool :=
  bif (zV e) then
    bif (r_Right e items) then
      bif decide (width < 0) then
        true
      else
        bif ((zc e width).2.1) then
          bif decide (((zG e items).1) ≤ width) then
            match yh ((z6 e).1) (((z6 e).1).l) 0 with
            | .x0 =>
              bif decide (((GS.at ((z6 e).1) (w64 (((((z6 e).1).l.length : Nat) : Int) - 1))).x1) > 0) then
                true
              else
                true
            | .x1 _ _ =>
              default
            | .x2 _ _ =>
              default
          else
            match yh ((z6 e).1) (((z6 e).1).l) 0 with
            | .x0 =>
              bif decide (((GS.at ((z6 e).1) (w64 (((((z6 e).1).l.length : Nat) : Int) - 1))).x1) > 0) then
                true
              else
                true
            | .x1 _ _ =>
              default
            | .x2 _ _ =>
              default
        else
          match yh ((z6 e).1) (((z6 e).1).l) 0 with
          | .x0 =>
            bif decide (((GS.at ((z6 e).1) (w64 (((((z6 e).1).l.length : Nat) : Int) - 1))).x1) > 0) then
              true
            else
              true
          | .x1 _ _ =>
            default
          | .x2 _ _ =>
            default
    else
      true
  else
    true

def l_OrdersCheap_o1 (e : S_Estate) (items : GS Int) (width : Int) : List Ora := [.pure (B true), .dec true, .pure (B (zV e)), .dec true, .pure (B (r_Right e items)), .dec true, .dec false, .pure (.tup [.sl (((zc e width).1).nl) ((((zc e width).1).l).map I) (zsl (((zc e width).1).nl) 1) none, B ((zc e width).2.1), I ((zc e width).2.2)])]

def l_OrdersCheap_o2 (e : S_Estate) (items : GS Int) (width : Int) : List Ora := [.dec true, .pure (.tup [I ((zC e width).1), B ((zC e width).2.1), I ((zC e width).2.2)]), .dec true, .pure (.tup [.sl (((ze e).1).nl) ((((ze e).1).l).map (GS.D Arr2_Int.D 2)) (zsl (((ze e).1).nl) 1) none, I ((ze e).2)]), .pure (.tup [.sl (((z6 e).1).nl) ((((z6 e).1).l).map Arr2_Int.D) (zsl (((z6 e).1).nl) 2) none, I ((z6 e).2)]), .dec false, .dec false, .dec false, .dec false, .dec false, .rw 95 (I ((((ze e).1).l.length : Nat) : Int)), .dec false, .rw 100 (I ((((z6 e).1).l.length : Nat) : Int)), .dec false, .rw 105 (I ((((ze e).1).l.length : Nat) : Int)), .el (.sl ((GS.at ((ze e).1) (w64 (((((ze e).1).l.length : Nat) : Int) - 1))).nl) (((GS.at ((ze e).1) (w64 (((((ze e).1).l.length : Nat) : Int) - 1))).l).map Arr2_Int.D) (zsl ((GS.at ((ze e).1) (w64 (((((ze e).1).l.length : Nat) : Int) - 1))).nl) 2) none), .pure (I (idxEn (GS.at ((ze e).1) (w64 (((((ze e).1).l.length : Nat) : Int) - 1))) ((zC e width).1))), .dec true, .dec false, .pure (.tup [I ((zG e ((zc e width).1)).1), I ((zG e ((zc e width).1)).2)]), .pure (.tup [I ((zP e ((zc e width).1)).1), I ((zP e ((zc e width).1)).2)]), .dec false, .dec false, .dec false, .rw 143 (I ((((ze e).1).l.length : Nat) : Int)), .el (.sl ((GS.at ((ze e).1) (w64 (((((ze e).1).l.length : Nat) : Int) - 1))).nl) (((GS.at ((ze e).1) (w64 (((((ze e).1).l.length : Nat) : Int) - 1))).l).map Arr2_Int.D) (zsl ((GS.at ((ze e).1) (w64 (((((ze e).1).l.length : Nat) : Int) - 1))).nl) 2) none), .el (.agg [I ((GS.at (GS.at ((ze e).1) (w64 (((((ze e).1).l.length : Nat) : Int) - 1))) (idxEn (GS.at ((ze e).1) (w64 (((((ze e).1).l.length : Nat) : Int) - 1))) ((zC e width).1))).x0), I ((GS.at (GS.at ((ze e).1) (w64 (((((ze e).1).l.length : Nat) : Int) - 1))) (idxEn (GS.at ((ze e).1) (w64 (((((ze e).1).l.length : Nat) : Int) - 1))) ((zC e width).1))).x1)]), .dec false, .pure (.tup [I ((zG e items).1), I ((zG e items).2)]), .pure (.tup [I ((zP e items).1), I ((zP e items).2)]), .dec false, .dec false]

def sd20238 (e : S_Estate) (step : Int) : St := ⟨297, [(184, B false), (3, I step), (4, .lref 0 0 3 0), (17, .sl (((z6 e).1).nl) ((((z6 e).1).l).map Arr2_Int.D) (zsl (((z6 e).1).nl) 2) none), (181, .sl (((z6 e).1).nl) ((((z6 e).1).l).map Arr2_Int.D) (zsl (((z6 e).1).nl) 2) none), (182, I ((((z6 e).1).l.length : Nat) : Int)), (183, I ((((z6 e).1).l.length : Nat) : Int))], [(0, ⟨[.agg [.sl e.items.nl (e.items.l.map S_Item.D) (zsl e.items.nl 4) none, I e.whole.lo, I e.whole.hi]], 3, false⟩)], 1, 0⟩

def l_OrdersCheap_o3 (e : S_Estate) (step : Int) : List Ora := [.dec true, .dec false, .rw 182 (I ((((z6 e).1).l.length : Nat) : Int)), .loop (.exit 0) (sd20238 e step), .rw 216 (I ((((z6 e).1).l.length : Nat) : Int)), .op (some 217) ⟨I (step.tmod ((((z6 e).1).l.length : Nat) : Int)), [], [], 1⟩, .rw 219 (I ((((z6 e).1).l.length : Nat) : Int)), .rw 222 (I ((((z6 e).1).l.length : Nat) : Int)), .op (some 223) ⟨I ((w64 ((step.tmod ((((z6 e).1).l.length : Nat) : Int)) + ((((z6 e).1).l.length : Nat) : Int))).tmod ((((z6 e).1).l.length : Nat) : Int)), [], [], 1⟩, .el (.agg [I ((GS.at ((z6 e).1) ((w64 ((step.tmod ((((z6 e).1).l.length : Nat) : Int)) + ((((z6 e).1).l.length : Nat) : Int))).tmod ((((z6 e).1).l.length : Nat) : Int))).x0), I ((GS.at ((z6 e).1) ((w64 ((step.tmod ((((z6 e).1).l.length : Nat) : Int)) + ((((z6 e).1).l.length : Nat) : Int))).tmod ((((z6 e).1).l.length : Nat) : Int))).x1)]), .pure (.tup [.sl (((zc e (ye ((GS.at ((z6 e).1) ((w64 ((step.tmod ((((z6 e).1).l.length : Nat) : Int)) + ((((z6 e).1).l.length : Nat) : Int))).tmod ((((z6 e).1).l.length : Nat) : Int))).x1) 0)).1).nl) ((((zc e (ye ((GS.at ((z6 e).1) ((w64 ((step.tmod ((((z6 e).1).l.length : Nat) : Int)) + ((((z6 e).1).l.length : Nat) : Int))).tmod ((((z6 e).1).l.length : Nat) : Int))).x1) 0)).1).l).map I) (zsl (((zc e (ye ((GS.at ((z6 e).1) ((w64 ((step.tmod ((((z6 e).1).l.length : Nat) : Int)) + ((((z6 e).1).l.length : Nat) : Int))).tmod ((((z6 e).1).l.length : Nat) : Int))).x1) 0)).1).nl) 1) none, B ((zc e (ye ((GS.at ((z6 e).1) ((w64 ((step.tmod ((((z6 e).1).l.length : Nat) : Int)) + ((((z6 e).1).l.length : Nat) : Int))).tmod ((((z6 e).1).l.length : Nat) : Int))).x1) 0)).2.1), I ((zc e (ye ((GS.at ((z6 e).1) ((w64 ((step.tmod ((((z6 e).1).l.length : Nat) : Int)) + ((((z6 e).1).l.length : Nat) : Int))).tmod ((((z6 e).1).l.length : Nat) : Int))).x1) 0)).2.2)]), .dec true, .pure (.tup [I ((zP e ((zc e (ye ((GS.at ((z6 e).1) ((w64 ((step.tmod ((((z6 e).1).l.length : Nat) : Int)) + ((((z6 e).1).l.length : Nat) : Int))).tmod ((((z6 e).1).l.length : Nat) : Int))).x1) 0)).1)).1), I ((zP e ((zc e (ye ((GS.at ((z6 e).1) ((w64 ((step.tmod ((((z6 e).1).l.length : Nat) : Int)) + ((((z6 e).1).l.length : Nat) : Int))).tmod ((((z6 e).1).l.length : Nat) : Int))).x1) 0)).1)).2)]), .pure (.tup [I ((zG e ((zc e (ye ((GS.at ((z6 e).1) ((w64 ((step.tmod ((((z6 e).1).l.length : Nat) : Int)) + ((((z6 e).1).l.length : Nat) : Int))).tmod ((((z6 e).1).l.length : Nat) : Int))).x1) 0)).1)).1), I ((zG e ((zc e (ye ((GS.at ((z6 e).1) ((w64 ((step.tmod ((((z6 e).1).l.length : Nat) : Int)) + ((((z6 e).1).l.length : Nat) : Int))).tmod ((((z6 e).1).l.length : Nat) : Int))).x1) 0)).1)).2)]), .dec false, .dec false, .dec false, .dec false, .dec false, .rw 275 (I ((((z6 e).1).l.length : Nat) : Int)), .el (.agg [I ((GS.at ((z6 e).1) (w64 (((((z6 e).1).l.length : Nat) : Int) - 1))).x0), I ((GS.at ((z6 e).1) (w64 (((((z6 e).1).l.length : Nat) : Int) - 1))).x1)])]

def l_OrdersCheap_o4 (e : S_Estate) (step : Int) : List Ora := [.dec false, .rw 182 (I ((((z6 e).1).l.length : Nat) : Int)), .loop (.exit 0) (sd20238 e step), .rw 216 (I ((((z6 e).1).l.length : Nat) : Int)), .op (some 217) ⟨I (step.tmod ((((z6 e).1).l.length : Nat) : Int)), [], [], 1⟩, .rw 219 (I ((((z6 e).1).l.length : Nat) : Int)), .rw 222 (I ((((z6 e).1).l.length : Nat) : Int)), .op (some 223) ⟨I ((w64 ((step.tmod ((((z6 e).1).l.length : Nat) : Int)) + ((((z6 e).1).l.length : Nat) : Int))).tmod ((((z6 e).1).l.length : Nat) : Int)), [], [], 1⟩, .el (.agg [I ((GS.at ((z6 e).1) ((w64 ((step.tmod ((((z6 e).1).l.length : Nat) : Int)) + ((((z6 e).1).l.length : Nat) : Int))).tmod ((((z6 e).1).l.length : Nat) : Int))).x0), I ((GS.at ((z6 e).1) ((w64 ((step.tmod ((((z6 e).1).l.length : Nat) : Int)) + ((((z6 e).1).l.length : Nat) : Int))).tmod ((((z6 e).1).l.length : Nat) : Int))).x1)]), .pure (.tup [.sl (((zc e (ye ((GS.at ((z6 e).1) ((w64 ((step.tmod ((((z6 e).1).l.length : Nat) : Int)) + ((((z6 e).1).l.length : Nat) : Int))).tmod ((((z6 e).1).l.length : Nat) : Int))).x1) 0)).1).nl) ((((zc e (ye ((GS.at ((z6 e).1) ((w64 ((step.tmod ((((z6 e).1).l.length : Nat) : Int)) + ((((z6 e).1).l.length : Nat) : Int))).tmod ((((z6 e).1).l.length : Nat) : Int))).x1) 0)).1).l).map I) (zsl (((zc e (ye ((GS.at ((z6 e).1) ((w64 ((step.tmod ((((z6 e).1).l.length : Nat) : Int)) + ((((z6 e).1).l.length : Nat) : Int))).tmod ((((z6 e).1).l.length : Nat) : Int))).x1) 0)).1).nl) 1) none, B ((zc e (ye ((GS.at ((z6 e).1) ((w64 ((step.tmod ((((z6 e).1).l.length : Nat) : Int)) + ((((z6 e).1).l.length : Nat) : Int))).tmod ((((z6 e).1).l.length : Nat) : Int))).x1) 0)).2.1), I ((zc e (ye ((GS.at ((z6 e).1) ((w64 ((step.tmod ((((z6 e).1).l.length : Nat) : Int)) + ((((z6 e).1).l.length : Nat) : Int))).tmod ((((z6 e).1).l.length : Nat) : Int))).x1) 0)).2.2)]), .dec true, .pure (.tup [I ((zP e ((zc e (ye ((GS.at ((z6 e).1) ((w64 ((step.tmod ((((z6 e).1).l.length : Nat) : Int)) + ((((z6 e).1).l.length : Nat) : Int))).tmod ((((z6 e).1).l.length : Nat) : Int))).x1) 0)).1)).1), I ((zP e ((zc e (ye ((GS.at ((z6 e).1) ((w64 ((step.tmod ((((z6 e).1).l.length : Nat) : Int)) + ((((z6 e).1).l.length : Nat) : Int))).tmod ((((z6 e).1).l.length : Nat) : Int))).x1) 0)).1)).2)]), .pure (.tup [I ((zG e ((zc e (ye ((GS.at ((z6 e).1) ((w64 ((step.tmod ((((z6 e).1).l.length : Nat) : Int)) + ((((z6 e).1).l.length : Nat) : Int))).tmod ((((z6 e).1).l.length : Nat) : Int))).x1) 0)).1)).1), I ((zG e ((zc e (ye ((GS.at ((z6 e).1) ((w64 ((step.tmod ((((z6 e).1).l.length : Nat) : Int)) + ((((z6 e).1).l.length : Nat) : Int))).tmod ((((z6 e).1).l.length : Nat) : Int))).x1) 0)).1)).2)]), .dec false, .dec false, .dec false, .dec false, .dec false, .rw 275 (I ((((z6 e).1).l.length : Nat) : Int)), .el (.agg [I ((GS.at ((z6 e).1) (w64 (((((z6 e).1).l.length : Nat) : Int) - 1))).x0), I ((GS.at ((z6 e).1) (w64 (((((z6 e).1).l.length : Nat) : Int) - 1))).x1)])]

def l_OrdersCheap_o5 (e : S_Estate) (width : Int) (step : Int) : List Ora := [.dec false, .pure (.tup [I ((zC e width).1), B ((zC e width).2.1), I ((zC e width).2.2)]), .dec false, .pure (.tup [.sl (((ze e).1).nl) ((((ze e).1).l).map (GS.D Arr2_Int.D 2)) (zsl (((ze e).1).nl) 1) none, I ((ze e).2)]), .pure (.tup [.sl (((z6 e).1).nl) ((((z6 e).1).l).map Arr2_Int.D) (zsl (((z6 e).1).nl) 2) none, I ((z6 e).2)]), .dec false, .dec false, .dec false, .dec false, .dec false, .rw 95 (I ((((ze e).1).l.length : Nat) : Int)), .dec false, .rw 100 (I ((((z6 e).1).l.length : Nat) : Int)), .dec false, .rw 105 (I ((((ze e).1).l.length : Nat) : Int)), .el (.sl ((GS.at ((ze e).1) (w64 (((((ze e).1).l.length : Nat) : Int) - 1))).nl) (((GS.at ((ze e).1) (w64 (((((ze e).1).l.length : Nat) : Int) - 1))).l).map Arr2_Int.D) (zsl ((GS.at ((ze e).1) (w64 (((((ze e).1).l.length : Nat) : Int) - 1))).nl) 2) none), .pure (I (idxEn (GS.at ((ze e).1) (w64 (((((ze e).1).l.length : Nat) : Int) - 1))) ((zC e width).1))), .dec false, .dec false, .rw 182 (I ((((z6 e).1).l.length : Nat) : Int)), .loop (.exit 0) (sd20238 e step), .rw 216 (I ((((z6 e).1).l.length : Nat) : Int)), .op (some 217) ⟨I (step.tmod ((((z6 e).1).l.length : Nat) : Int)), [], [], 1⟩, .rw 219 (I ((((z6 e).1).l.length : Nat) : Int)), .rw 222 (I ((((z6 e).1).l.length : Nat) : Int)), .op (some 223) ⟨I ((w64 ((step.tmod ((((z6 e).1).l.length : Nat) : Int)) + ((((z6 e).1).l.length : Nat) : Int))).tmod ((((z6 e).1).l.length : Nat) : Int)), [], [], 1⟩, .el (.agg [I ((GS.at ((z6 e).1) ((w64 ((step.tmod ((((z6 e).1).l.length : Nat) : Int)) + ((((z6 e).1).l.length : Nat) : Int))).tmod ((((z6 e).1).l.length : Nat) : Int))).x0), I ((GS.at ((z6 e).1) ((w64 ((step.tmod ((((z6 e).1).l.length : Nat) : Int)) + ((((z6 e).1).l.length : Nat) : Int))).tmod ((((z6 e).1).l.length : Nat) : Int))).x1)]), .pure (.tup [.sl (((zc e (ye ((GS.at ((z6 e).1) ((w64 ((step.tmod ((((z6 e).1).l.length : Nat) : Int)) + ((((z6 e).1).l.length : Nat) : Int))).tmod ((((z6 e).1).l.length : Nat) : Int))).x1) 0)).1).nl) ((((zc e (ye ((GS.at ((z6 e).1) ((w64 ((step.tmod ((((z6 e).1).l.length : Nat) : Int)) + ((((z6 e).1).l.length : Nat) : Int))).tmod ((((z6 e).1).l.length : Nat) : Int))).x1) 0)).1).l).map I) (zsl (((zc e (ye ((GS.at ((z6 e).1) ((w64 ((step.tmod ((((z6 e).1).l.length : Nat) : Int)) + ((((z6 e).1).l.length : Nat) : Int))).tmod ((((z6 e).1).l.length : Nat) : Int))).x1) 0)).1).nl) 1) none, B ((zc e (ye ((GS.at ((z6 e).1) ((w64 ((step.tmod ((((z6 e).1).l.length : Nat) : Int)) + ((((z6 e).1).l.length : Nat) : Int))).tmod ((((z6 e).1).l.length : Nat) : Int))).x1) 0)).2.1), I ((zc e (ye ((GS.at ((z6 e).1) ((w64 ((step.tmod ((((z6 e).1).l.length : Nat) : Int)) + ((((z6 e).1).l.length : Nat) : Int))).tmod ((((z6 e).1).l.length : Nat) : Int))).x1) 0)).2.2)]), .dec true, .pure (.tup [I ((zP e ((zc e (ye ((GS.at ((z6 e).1) ((w64 ((step.tmod ((((z6 e).1).l.length : Nat) : Int)) + ((((z6 e).1).l.length : Nat) : Int))).tmod ((((z6 e).1).l.length : Nat) : Int))).x1) 0)).1)).1), I ((zP e ((zc e (ye ((GS.at ((z6 e).1) ((w64 ((step.tmod ((((z6 e).1).l.length : Nat) : Int)) + ((((z6 e).1).l.length : Nat) : Int))).tmod ((((z6 e).1).l.length : Nat) : Int))).x1) 0)).1)).2)]), .pure (.tup [I ((zG e ((zc e (ye ((GS.at ((z6 e).1) ((w64 ((step.tmod ((((z6 e).1).l.length : Nat) : Int)) + ((((z6 e).1).l.length : Nat) : Int))).tmod ((((z6 e).1).l.length : Nat) : Int))).x1) 0)).1)).1), I ((zG e ((zc e (ye ((GS.at ((z6 e).1) ((w64 ((step.tmod ((((z6 e).1).l.length : Nat) : Int)) + ((((z6 e).1).l.length : Nat) : Int))).tmod ((((z6 e).1).l.length : Nat) : Int))).x1) 0)).1)).2)]), .dec false, .dec false, .dec false, .dec false, .dec false, .rw 275 (I ((((z6 e).1).l.length : Nat) : Int)), .el (.agg [I ((GS.at ((z6 e).1) (w64 (((((z6 e).1).l.length : Nat) : Int) - 1))).x0), I ((GS.at ((z6 e).1) (w64 (((((z6 e).1).l.length : Nat) : Int) - 1))).x1)])]

theorem T_l_OrdersCheap (e : S_Estate) (items : GS Int) (width : Int) (step : Int) (hL : items.l.length ≤ 9223372036854775807) : (lim cfg).pure 4 [S_Estate.D e, GS.D I 1 items, I width, I step] = some (B (l_OrdersCheap e items width step)) := by
  unfold l_OrdersCheap
  cases h1 : (zV e) with
  | true =>
    have g1 := valid_len h1
    cases h2 : (r_Right e items) with
    | true =>
      obtain ⟨gb2, g2⟩ := rright_all (by assumption) (by assumption) h2
      cases h3 : decide (width < 0) with
      | true =>
        have g3 := of_decide_eq_true h3
        exact zk [.pure (B true), .dec true, .pure (B (zV e)), .dec true, .pure (B (r_Right e items)), .dec true, .dec true] (And.intro h3 (And.intro h2 (And.intro (T_r_Right e items (by omega)) (And.intro h1 (And.intro (T_r_Valid e) (And.intro (Eq.refl true) (And.intro sane_ok trivial))))))) (by kernel_rfl)
      | false =>
        have g3 := of_decide_eq_false h3
        cases h4 : ((zc e width).2.1) with
        | true =>
          have p1 := (show ((zC e width).2.1) = true from (ck_may h1 h3 h4))
          have p2 := (show (((zc e width).2.2) != 0) = false from (ck_b2 h1 h3))
          have p3 := (show (((zC e width).2.2) != 0) = false from (ck_n2 h1 h3))
          have p4 := (show (((ze e).2) != 0) = false from (ck_f2 h1))
          have p5 := (show (((z6 e).2) != 0) = false from (ck_s2 h1))
          have p6 := (zu (GS.D Arr2_Int.D 2) ((ze e).1))
          have p7 := (show (((((ze e).1).l.length : Nat) : Int) == 0) = false from (ck_fl h1))
          have p8 := (show (((((z6 e).1).l.length : Nat) : Int) == 0) = false from (ck_sl h1))
          have p9 := (zu (GS.D Arr2_Int.D 2) ((ze e).1))
          have p10 := (el_in (s := ((ze e).1)) (f := (GS.D Arr2_Int.D 2)) (k := 1) (i := w64 (((((ze e).1).l.length : Nat) : Int) - 1)) (by with_reducible exact fl_lo (by with_reducible assumption)) (by with_reducible exact fl_hi (by with_reducible assumption)))
          have p11 := (T_idxEn (GS.at ((ze e).1) (w64 (((((ze e).1).l.length : Nat) : Int) - 1))) ((zC e width).1) (at_bd2 (fronts_bd e).2 _))
          have p12 := (show decide ((idxEn (GS.at ((ze e).1) (w64 (((((ze e).1).l.length : Nat) : Int) - 1))) ((zC e width).1)) ≥ 0) = true from (ck_first h1 h3 h4))
          have p13 := (T_orders_Worst e ((zc e width).1) (best_len e _))
          have p14 := (T_orders_Cost e ((zc e width).1) (best_len e _))
          have p15 := (show (((zG e ((zc e width).1)).2) != 0) = false from (ck_w2 h1 h3 h4))
          have p16 := (show (((zP e ((zc e width).1)).2) != 0) = false from (ck_c2 h1 h3 h4))
          have p17 := (show decide (((zG e ((zc e width).1)).1) > width) = false from (ck_w1 h1 h3 h4))
          have p18 := (zu (GS.D Arr2_Int.D 2) ((ze e).1))
          have p19 := (el_in (s := ((ze e).1)) (f := (GS.D Arr2_Int.D 2)) (k := 1) (i := w64 (((((ze e).1).l.length : Nat) : Int) - 1)) (by omega) (by with_reducible exact fl_hi (by with_reducible assumption)))
          have p20 := (el_in (s := (GS.at ((ze e).1) (w64 (((((ze e).1).l.length : Nat) : Int) - 1)))) (f := Arr2_Int.D) (k := 2) (i := (idxEn (GS.at ((ze e).1) (w64 (((((ze e).1).l.length : Nat) : Int) - 1))) ((zC e width).1))) (by with_reducible exact fi_lo (by with_reducible assumption) (by with_reducible assumption) (by with_reducible assumption)) (by with_reducible exact fi_hi (by with_reducible assumption) (by with_reducible assumption) (by with_reducible assumption)))
          have p21 := (show (((zP e ((zc e width).1)).1) != ((GS.at (GS.at ((ze e).1) (w64 (((((ze e).1).l.length : Nat) : Int) - 1))) (idxEn (GS.at ((ze e).1) (w64 (((((ze e).1).l.length : Nat) : Int) - 1))) ((zC e width).1))).x0)) = false from (ck_c1 h1 h3 h4))
          have p22 := (show (((zG e items).2) != 0) = false from (ck_iw hL h1 h2))
          have p23 := (show (((zP e items).2) != 0) = false from (ck_ic hL h1 h2))
          cases h5 : decide (((zG e items).1) ≤ width) with
          | true =>
            have g5 := of_decide_eq_true h5
            have p24 := (show decide (((zP e items).1) < ((zP e ((zc e width).1)).1)) = false from (ck_paid hL h1 h2 h3 h4 h5))
            cases h12 : yh ((z6 e).1) (((z6 e).1).l) 0 with
            | x0 =>
              try dsimp only
              have p25 := (po_lr (q := lr_l_OrdersCheap_24 e step ((z6 e).1)) (lp_l_OrdersCheap_24 e step ((z6 e).1) (((z6 e).1).l) 0 (List.drop_zero) (Nat.zero_le _) (by with_reducible exact Nat.le_trans (steps_len e) (by decide))) h12)
              have p26 := (rem_op (C := cfg) (t := 3) (cst := false) (nxt := 1) (a := step) (b := ((((z6 e).1).l.length : Nat) : Int)) (by with_reducible exact tm_ne (by with_reducible assumption)))
              have p27 := (rem_op (C := cfg) (t := 3) (cst := false) (nxt := 1) (a := w64 ((step.tmod ((((z6 e).1).l.length : Nat) : Int)) + ((((z6 e).1).l.length : Nat) : Int))) (b := ((((z6 e).1).l.length : Nat) : Int)) (by with_reducible exact tm_ne (by with_reducible assumption)))
              have p28 := (el_in (s := ((z6 e).1)) (f := Arr2_Int.D) (k := 2) (i := (w64 ((step.tmod ((((z6 e).1).l.length : Nat) : Int)) + ((((z6 e).1).l.length : Nat) : Int))).tmod ((((z6 e).1).l.length : Nat) : Int)) (by with_reducible exact sm_lo (by with_reducible assumption)) (by with_reducible exact sm_hi (by with_reducible assumption)))
              have p29 := (T_orders_Best e (ye ((GS.at ((z6 e).1) ((w64 ((step.tmod ((((z6 e).1).l.length : Nat) : Int)) + ((((z6 e).1).l.length : Nat) : Int))).tmod ((((z6 e).1).l.length : Nat) : Int))).x1) 0))
              have p30 := (show ((zc e (ye ((GS.at ((z6 e).1) ((w64 ((step.tmod ((((z6 e).1).l.length : Nat) : Int)) + ((((z6 e).1).l.length : Nat) : Int))).tmod ((((z6 e).1).l.length : Nat) : Int))).x1) 0)).2.1) = true from (ck_sb h1))
              have p31 := (T_orders_Cost e ((zc e (ye ((GS.at ((z6 e).1) ((w64 ((step.tmod ((((z6 e).1).l.length : Nat) : Int)) + ((((z6 e).1).l.length : Nat) : Int))).tmod ((((z6 e).1).l.length : Nat) : Int))).x1) 0)).1) (best_len e _))
              have p32 := (T_orders_Worst e ((zc e (ye ((GS.at ((z6 e).1) ((w64 ((step.tmod ((((z6 e).1).l.length : Nat) : Int)) + ((((z6 e).1).l.length : Nat) : Int))).tmod ((((z6 e).1).l.length : Nat) : Int))).x1) 0)).1) (best_len e _))
              have p33 := (show (((zc e (ye ((GS.at ((z6 e).1) ((w64 ((step.tmod ((((z6 e).1).l.length : Nat) : Int)) + ((((z6 e).1).l.length : Nat) : Int))).tmod ((((z6 e).1).l.length : Nat) : Int))).x1) 0)).2.2) != 0) = false from (ck_sb2 h1))
              have p34 := (show (((zP e ((zc e (ye ((GS.at ((z6 e).1) ((w64 ((step.tmod ((((z6 e).1).l.length : Nat) : Int)) + ((((z6 e).1).l.length : Nat) : Int))).tmod ((((z6 e).1).l.length : Nat) : Int))).x1) 0)).1)).2) != 0) = false from (ck_sc2 h1))
              have p35 := (show (((zG e ((zc e (ye ((GS.at ((z6 e).1) ((w64 ((step.tmod ((((z6 e).1).l.length : Nat) : Int)) + ((((z6 e).1).l.length : Nat) : Int))).tmod ((((z6 e).1).l.length : Nat) : Int))).x1) 0)).1)).2) != 0) = false from (ck_sw2 h1))
              have p36 := (show (((zP e ((zc e (ye ((GS.at ((z6 e).1) ((w64 ((step.tmod ((((z6 e).1).l.length : Nat) : Int)) + ((((z6 e).1).l.length : Nat) : Int))).tmod ((((z6 e).1).l.length : Nat) : Int))).x1) 0)).1)).1) != ((GS.at ((z6 e).1) ((w64 ((step.tmod ((((z6 e).1).l.length : Nat) : Int)) + ((((z6 e).1).l.length : Nat) : Int))).tmod ((((z6 e).1).l.length : Nat) : Int))).x0)) = false from (ck_sc1 h1))
              have p37 := (show (((zG e ((zc e (ye ((GS.at ((z6 e).1) ((w64 ((step.tmod ((((z6 e).1).l.length : Nat) : Int)) + ((((z6 e).1).l.length : Nat) : Int))).tmod ((((z6 e).1).l.length : Nat) : Int))).x1) 0)).1)).1) != ((GS.at ((z6 e).1) ((w64 ((step.tmod ((((z6 e).1).l.length : Nat) : Int)) + ((((z6 e).1).l.length : Nat) : Int))).tmod ((((z6 e).1).l.length : Nat) : Int))).x1)) = false from (ck_sw1 h1))
              have p38 := (el_in (s := ((z6 e).1)) (f := Arr2_Int.D) (k := 2) (i := w64 (((((z6 e).1).l.length : Nat) : Int) - 1)) (by with_reducible exact sl_lo (by with_reducible assumption)) (by with_reducible exact sl_hi (by with_reducible assumption)))
              cases h13 : decide (((GS.at ((z6 e).1) (w64 (((((z6 e).1).l.length : Nat) : Int) - 1))).x1) > 0) with
              | true =>
                have g13 := of_decide_eq_true h13
                exact zk ((l_OrdersCheap_o1 e items width) ++ ((l_OrdersCheap_o2 e items width) ++ ((l_OrdersCheap_o3 e step) ++ [.dec true, .pure (.tup [.sl (((zc e (w64 (((GS.at ((z6 e).1) (w64 (((((z6 e).1).l.length : Nat) : Int) - 1))).x1) - 1))).1).nl) ((((zc e (w64 (((GS.at ((z6 e).1) (w64 (((((z6 e).1).l.length : Nat) : Int) - 1))).x1) - 1))).1).l).map I) (zsl (((zc e (w64 (((GS.at ((z6 e).1) (w64 (((((z6 e).1).l.length : Nat) : Int) - 1))).x1) - 1))).1).nl) 1) none, B ((zc e (w64 (((GS.at ((z6 e).1) (w64 (((((z6 e).1).l.length : Nat) : Int) - 1))).x1) - 1))).2.1), I ((zc e (w64 (((GS.at ((z6 e).1) (w64 (((((z6 e).1).l.length : Nat) : Int) - 1))).x1) - 1))).2.2)]), .dec false, .dec true]))) (And.intro (show (((zc e (w64 (((GS.at ((z6 e).1) (w64 (((((z6 e).1).l.length : Nat) : Int) - 1))).x1) - 1))).2.2) == 0) = true from (ck_l2 h1 h13)) (And.intro (show ((zc e (w64 (((GS.at ((z6 e).1) (w64 (((((z6 e).1).l.length : Nat) : Int) - 1))).x1) - 1))).2.1) = false from (ck_l1 h1 h13)) (And.intro (T_orders_Best e (w64 (((GS.at ((z6 e).1) (w64 (((((z6 e).1).l.length : Nat) : Int) - 1))).x1) - 1))) (And.intro h13 (And.intro p38 (And.intro (zu Arr2_Int.D ((z6 e).1)) (And.intro p37 (And.intro p36 (And.intro p35 (And.intro p34 (And.intro p33 (And.intro p32 (And.intro p31 (And.intro p30 (And.intro p29 (And.intro p28 (And.intro p27 (And.intro (zu Arr2_Int.D ((z6 e).1)) (And.intro (zu Arr2_Int.D ((z6 e).1)) (And.intro p26 (And.intro (zu Arr2_Int.D ((z6 e).1)) (And.intro p25 (And.intro (zu Arr2_Int.D ((z6 e).1)) (And.intro p24 (And.intro h5 (And.intro p23 (And.intro p22 (And.intro (T_orders_Cost e items (by omega)) (And.intro (T_orders_Worst e items (by omega)) (And.intro p21 (And.intro p20 (And.intro p19 (And.intro p18 (And.intro p17 (And.intro p16 (And.intro p15 (And.intro p14 (And.intro p13 (And.intro (Eq.refl false) (And.intro p12 (And.intro p11 (And.intro p10 (And.intro p9 (And.intro p8 (And.intro (zu Arr2_Int.D ((z6 e).1)) (And.intro p7 (And.intro p6 (And.intro (Eq.refl false) (And.intro p5 (And.intro p4 (And.intro p3 (And.intro p2 (And.intro (T_orders_Steps e (by omega)) (And.intro (T_orders_Fronts e) (And.intro p1 (And.intro (T_orders_Need e width (by omega)) (And.intro h4 (And.intro (T_orders_Best e width) (And.intro h3 (And.intro h2 (And.intro (T_r_Right e items (by omega)) (And.intro h1 (And.intro (T_r_Valid e) (And.intro (Eq.refl true) (And.intro sane_ok trivial))))))))))))))))))))))))))))))))))))))))))))))))))))))))))))))))) (by kernel_rfl)
              | false =>
                have g13 := of_decide_eq_false h13
                exact zk ((l_OrdersCheap_o1 e items width) ++ ((l_OrdersCheap_o2 e items width) ++ ((l_OrdersCheap_o3 e step) ++ [.dec false]))) (And.intro h13 (And.intro p38 (And.intro (zu Arr2_Int.D ((z6 e).1)) (And.intro p37 (And.intro p36 (And.intro p35 (And.intro p34 (And.intro p33 (And.intro p32 (And.intro p31 (And.intro p30 (And.intro p29 (And.intro p28 (And.intro p27 (And.intro (zu Arr2_Int.D ((z6 e).1)) (And.intro (zu Arr2_Int.D ((z6 e).1)) (And.intro p26 (And.intro (zu Arr2_Int.D ((z6 e).1)) (And.intro p25 (And.intro (zu Arr2_Int.D ((z6 e).1)) (And.intro p24 (And.intro h5 (And.intro p23 (And.intro p22 (And.intro (T_orders_Cost e items (by omega)) (And.intro (T_orders_Worst e items (by omega)) (And.intro p21 (And.intro p20 (And.intro p19 (And.intro p18 (And.intro p17 (And.intro p16 (And.intro p15 (And.intro p14 (And.intro p13 (And.intro (Eq.refl false) (And.intro p12 (And.intro p11 (And.intro p10 (And.intro p9 (And.intro p8 (And.intro (zu Arr2_Int.D ((z6 e).1)) (And.intro p7 (And.intro p6 (And.intro (Eq.refl false) (And.intro p5 (And.intro p4 (And.intro p3 (And.intro p2 (And.intro (T_orders_Steps e (by omega)) (And.intro (T_orders_Fronts e) (And.intro p1 (And.intro (T_orders_Need e width (by omega)) (And.intro h4 (And.intro (T_orders_Best e width) (And.intro h3 (And.intro h2 (And.intro (T_r_Right e items (by omega)) (And.intro h1 (And.intro (T_r_Valid e) (And.intro (Eq.refl true) (And.intro sane_ok trivial)))))))))))))))))))))))))))))))))))))))))))))))))))))))))))))) (by kernel_rfl)
            | x1 _ _ =>
              rw [l_OrdersCheap_24_all (by assumption)] at h12; cases h12
            | x2 _ _ =>
              rw [l_OrdersCheap_24_all (by assumption)] at h12; cases h12
          | false =>
            have g5 := of_decide_eq_false h5
            cases h14 : yh ((z6 e).1) (((z6 e).1).l) 0 with
            | x0 =>
              try dsimp only
              have p39 := (po_lr (q := lr_l_OrdersCheap_24 e step ((z6 e).1)) (lp_l_OrdersCheap_24 e step ((z6 e).1) (((z6 e).1).l) 0 (List.drop_zero) (Nat.zero_le _) (by with_reducible exact Nat.le_trans (steps_len e) (by decide))) h14)
              have p40 := (rem_op (C := cfg) (t := 3) (cst := false) (nxt := 1) (a := step) (b := ((((z6 e).1).l.length : Nat) : Int)) (by with_reducible exact tm_ne (by with_reducible assumption)))
              have p41 := (rem_op (C := cfg) (t := 3) (cst := false) (nxt := 1) (a := w64 ((step.tmod ((((z6 e).1).l.length : Nat) : Int)) + ((((z6 e).1).l.length : Nat) : Int))) (b := ((((z6 e).1).l.length : Nat) : Int)) (by with_reducible exact tm_ne (by with_reducible assumption)))
              have p42 := (el_in (s := ((z6 e).1)) (f := Arr2_Int.D) (k := 2) (i := (w64 ((step.tmod ((((z6 e).1).l.length : Nat) : Int)) + ((((z6 e).1).l.length : Nat) : Int))).tmod ((((z6 e).1).l.length : Nat) : Int)) (by with_reducible exact sm_lo (by with_reducible assumption)) (by with_reducible exact sm_hi (by with_reducible assumption)))
              have p43 := (T_orders_Best e (ye ((GS.at ((z6 e).1) ((w64 ((step.tmod ((((z6 e).1).l.length : Nat) : Int)) + ((((z6 e).1).l.length : Nat) : Int))).tmod ((((z6 e).1).l.length : Nat) : Int))).x1) 0))
              have p44 := (show ((zc e (ye ((GS.at ((z6 e).1) ((w64 ((step.tmod ((((z6 e).1).l.length : Nat) : Int)) + ((((z6 e).1).l.length : Nat) : Int))).tmod ((((z6 e).1).l.length : Nat) : Int))).x1) 0)).2.1) = true from (ck_sb h1))
              have p45 := (T_orders_Cost e ((zc e (ye ((GS.at ((z6 e).1) ((w64 ((step.tmod ((((z6 e).1).l.length : Nat) : Int)) + ((((z6 e).1).l.length : Nat) : Int))).tmod ((((z6 e).1).l.length : Nat) : Int))).x1) 0)).1) (best_len e _))
              have p46 := (T_orders_Worst e ((zc e (ye ((GS.at ((z6 e).1) ((w64 ((step.tmod ((((z6 e).1).l.length : Nat) : Int)) + ((((z6 e).1).l.length : Nat) : Int))).tmod ((((z6 e).1).l.length : Nat) : Int))).x1) 0)).1) (best_len e _))
              have p47 := (show (((zc e (ye ((GS.at ((z6 e).1) ((w64 ((step.tmod ((((z6 e).1).l.length : Nat) : Int)) + ((((z6 e).1).l.length : Nat) : Int))).tmod ((((z6 e).1).l.length : Nat) : Int))).x1) 0)).2.2) != 0) = false from (ck_sb2 h1))
              have p48 := (show (((zP e ((zc e (ye ((GS.at ((z6 e).1) ((w64 ((step.tmod ((((z6 e).1).l.length : Nat) : Int)) + ((((z6 e).1).l.length : Nat) : Int))).tmod ((((z6 e).1).l.length : Nat) : Int))).x1) 0)).1)).2) != 0) = false from (ck_sc2 h1))
              have p49 := (show (((zG e ((zc e (ye ((GS.at ((z6 e).1) ((w64 ((step.tmod ((((z6 e).1).l.length : Nat) : Int)) + ((((z6 e).1).l.length : Nat) : Int))).tmod ((((z6 e).1).l.length : Nat) : Int))).x1) 0)).1)).2) != 0) = false from (ck_sw2 h1))
              have p50 := (show (((zP e ((zc e (ye ((GS.at ((z6 e).1) ((w64 ((step.tmod ((((z6 e).1).l.length : Nat) : Int)) + ((((z6 e).1).l.length : Nat) : Int))).tmod ((((z6 e).1).l.length : Nat) : Int))).x1) 0)).1)).1) != ((GS.at ((z6 e).1) ((w64 ((step.tmod ((((z6 e).1).l.length : Nat) : Int)) + ((((z6 e).1).l.length : Nat) : Int))).tmod ((((z6 e).1).l.length : Nat) : Int))).x0)) = false from (ck_sc1 h1))
              have p51 := (show (((zG e ((zc e (ye ((GS.at ((z6 e).1) ((w64 ((step.tmod ((((z6 e).1).l.length : Nat) : Int)) + ((((z6 e).1).l.length : Nat) : Int))).tmod ((((z6 e).1).l.length : Nat) : Int))).x1) 0)).1)).1) != ((GS.at ((z6 e).1) ((w64 ((step.tmod ((((z6 e).1).l.length : Nat) : Int)) + ((((z6 e).1).l.length : Nat) : Int))).tmod ((((z6 e).1).l.length : Nat) : Int))).x1)) = false from (ck_sw1 h1))
              have p52 := (el_in (s := ((z6 e).1)) (f := Arr2_Int.D) (k := 2) (i := w64 (((((z6 e).1).l.length : Nat) : Int) - 1)) (by with_reducible exact sl_lo (by with_reducible assumption)) (by with_reducible exact sl_hi (by with_reducible assumption)))
              cases h15 : decide (((GS.at ((z6 e).1) (w64 (((((z6 e).1).l.length : Nat) : Int) - 1))).x1) > 0) with
              | true =>
                have g15 := of_decide_eq_true h15
                exact zk ((l_OrdersCheap_o1 e items width) ++ ((l_OrdersCheap_o2 e items width) ++ ((l_OrdersCheap_o4 e step) ++ [.dec true, .pure (.tup [.sl (((zc e (w64 (((GS.at ((z6 e).1) (w64 (((((z6 e).1).l.length : Nat) : Int) - 1))).x1) - 1))).1).nl) ((((zc e (w64 (((GS.at ((z6 e).1) (w64 (((((z6 e).1).l.length : Nat) : Int) - 1))).x1) - 1))).1).l).map I) (zsl (((zc e (w64 (((GS.at ((z6 e).1) (w64 (((((z6 e).1).l.length : Nat) : Int) - 1))).x1) - 1))).1).nl) 1) none, B ((zc e (w64 (((GS.at ((z6 e).1) (w64 (((((z6 e).1).l.length : Nat) : Int) - 1))).x1) - 1))).2.1), I ((zc e (w64 (((GS.at ((z6 e).1) (w64 (((((z6 e).1).l.length : Nat) : Int) - 1))).x1) - 1))).2.2)]), .dec false, .dec true]))) (And.intro (show (((zc e (w64 (((GS.at ((z6 e).1) (w64 (((((z6 e).1).l.length : Nat) : Int) - 1))).x1) - 1))).2.2) == 0) = true from (ck_l2 h1 h15)) (And.intro (show ((zc e (w64 (((GS.at ((z6 e).1) (w64 (((((z6 e).1).l.length : Nat) : Int) - 1))).x1) - 1))).2.1) = false from (ck_l1 h1 h15)) (And.intro (T_orders_Best e (w64 (((GS.at ((z6 e).1) (w64 (((((z6 e).1).l.length : Nat) : Int) - 1))).x1) - 1))) (And.intro h15 (And.intro p52 (And.intro (zu Arr2_Int.D ((z6 e).1)) (And.intro p51 (And.intro p50 (And.intro p49 (And.intro p48 (And.intro p47 (And.intro p46 (And.intro p45 (And.intro p44 (And.intro p43 (And.intro p42 (And.intro p41 (And.intro (zu Arr2_Int.D ((z6 e).1)) (And.intro (zu Arr2_Int.D ((z6 e).1)) (And.intro p40 (And.intro (zu Arr2_Int.D ((z6 e).1)) (And.intro p39 (And.intro (zu Arr2_Int.D ((z6 e).1)) (And.intro h5 (And.intro p23 (And.intro p22 (And.intro (T_orders_Cost e items (by omega)) (And.intro (T_orders_Worst e items (by omega)) (And.intro p21 (And.intro p20 (And.intro p19 (And.intro p18 (And.intro p17 (And.intro p16 (And.intro p15 (And.intro p14 (And.intro p13 (And.intro (Eq.refl false) (And.intro p12 (And.intro p11 (And.intro p10 (And.intro p9 (And.intro p8 (And.intro (zu Arr2_Int.D ((z6 e).1)) (And.intro p7 (And.intro p6 (And.intro (Eq.refl false) (And.intro p5 (And.intro p4 (And.intro p3 (And.intro p2 (And.intro (T_orders_Steps e (by omega)) (And.intro (T_orders_Fronts e) (And.intro p1 (And.intro (T_orders_Need e width (by omega)) (And.intro h4 (And.intro (T_orders_Best e width) (And.intro h3 (And.intro h2 (And.intro (T_r_Right e items (by omega)) (And.intro h1 (And.intro (T_r_Valid e) (And.intro (Eq.refl true) (And.intro sane_ok trivial)))))))))))))))))))))))))))))))))))))))))))))))))))))))))))))))) (by kernel_rfl)
              | false =>
                have g15 := of_decide_eq_false h15
                exact zk ((l_OrdersCheap_o1 e items width) ++ ((l_OrdersCheap_o2 e items width) ++ ((l_OrdersCheap_o4 e step) ++ [.dec false]))) (And.intro h15 (And.intro p52 (And.intro (zu Arr2_Int.D ((z6 e).1)) (And.intro p51 (And.intro p50 (And.intro p49 (And.intro p48 (And.intro p47 (And.intro p46 (And.intro p45 (And.intro p44 (And.intro p43 (And.intro p42 (And.intro p41 (And.intro (zu Arr2_Int.D ((z6 e).1)) (And.intro (zu Arr2_Int.D ((z6 e).1)) (And.intro p40 (And.intro (zu Arr2_Int.D ((z6 e).1)) (And.intro p39 (And.intro (zu Arr2_Int.D ((z6 e).1)) (And.intro h5 (And.intro p23 (And.intro p22 (And.intro (T_orders_Cost e items (by omega)) (And.intro (T_orders_Worst e items (by omega)) (And.intro p21 (And.intro p20 (And.intro p19 (And.intro p18 (And.intro p17 (And.intro p16 (And.intro p15 (And.intro p14 (And.intro p13 (And.intro (Eq.refl false) (And.intro p12 (And.intro p11 (And.intro p10 (And.intro p9 (And.intro p8 (And.intro (zu Arr2_Int.D ((z6 e).1)) (And.intro p7 (And.intro p6 (And.intro (Eq.refl false) (And.intro p5 (And.intro p4 (And.intro p3 (And.intro p2 (And.intro (T_orders_Steps e (by omega)) (And.intro (T_orders_Fronts e) (And.intro p1 (And.intro (T_orders_Need e width (by omega)) (And.intro h4 (And.intro (T_orders_Best e width) (And.intro h3 (And.intro h2 (And.intro (T_r_Right e items (by omega)) (And.intro h1 (And.intro (T_r_Valid e) (And.intro (Eq.refl true) (And.intro sane_ok trivial))))))))))))))))))))))))))))))))))))))))))))))))))))))))))))) (by kernel_rfl)
            | x1 _ _ =>
              rw [l_OrdersCheap_24_all (by assumption)] at h14; cases h14
            | x2 _ _ =>
              rw [l_OrdersCheap_24_all (by assumption)] at h14; cases h14
        | false =>
          have p53 := (show ((zC e width).2.1) = false from (ck_may h1 h3 h4))
          have p54 := (show (((zc e width).2.2) != 0) = false from (ck_b2 h1 h3))
          have p55 := (show (((zC e width).2.2) != 0) = false from (ck_n2 h1 h3))
          have p56 := (show (((ze e).2) != 0) = false from (ck_f2 h1))
          have p57 := (show (((z6 e).2) != 0) = false from (ck_s2 h1))
          have p58 := (zu (GS.D Arr2_Int.D 2) ((ze e).1))
          have p59 := (show (((((ze e).1).l.length : Nat) : Int) == 0) = false from (ck_fl h1))
          have p60 := (show (((((z6 e).1).l.length : Nat) : Int) == 0) = false from (ck_sl h1))
          have p61 := (zu (GS.D Arr2_Int.D 2) ((ze e).1))
          have p62 := (el_in (s := ((ze e).1)) (f := (GS.D Arr2_Int.D 2)) (k := 1) (i := w64 (((((ze e).1).l.length : Nat) : Int) - 1)) (by with_reducible exact fl_lo (by with_reducible assumption)) (by with_reducible exact fl_hi (by with_reducible assumption)))
          have p63 := (T_idxEn (GS.at ((ze e).1) (w64 (((((ze e).1).l.length : Nat) : Int) - 1))) ((zC e width).1) (at_bd2 (fronts_bd e).2 _))
          have p64 := (show decide ((idxEn (GS.at ((ze e).1) (w64 (((((ze e).1).l.length : Nat) : Int) - 1))) ((zC e width).1)) ≥ 0) = false from (ck_first h1 h3 h4))
          cases h16 : yh ((z6 e).1) (((z6 e).1).l) 0 with
          | x0 =>
            try dsimp only
            have p65 := (po_lr (q := lr_l_OrdersCheap_24 e step ((z6 e).1)) (lp_l_OrdersCheap_24 e step ((z6 e).1) (((z6 e).1).l) 0 (List.drop_zero) (Nat.zero_le _) (by with_reducible exact Nat.le_trans (steps_len e) (by decide))) h16)
            have p66 := (rem_op (C := cfg) (t := 3) (cst := false) (nxt := 1) (a := step) (b := ((((z6 e).1).l.length : Nat) : Int)) (by with_reducible exact tm_ne (by with_reducible assumption)))
            have p67 := (rem_op (C := cfg) (t := 3) (cst := false) (nxt := 1) (a := w64 ((step.tmod ((((z6 e).1).l.length : Nat) : Int)) + ((((z6 e).1).l.length : Nat) : Int))) (b := ((((z6 e).1).l.length : Nat) : Int)) (by with_reducible exact tm_ne (by with_reducible assumption)))
            have p68 := (el_in (s := ((z6 e).1)) (f := Arr2_Int.D) (k := 2) (i := (w64 ((step.tmod ((((z6 e).1).l.length : Nat) : Int)) + ((((z6 e).1).l.length : Nat) : Int))).tmod ((((z6 e).1).l.length : Nat) : Int)) (by with_reducible exact sm_lo (by with_reducible assumption)) (by with_reducible exact sm_hi (by with_reducible assumption)))
            have p69 := (T_orders_Best e (ye ((GS.at ((z6 e).1) ((w64 ((step.tmod ((((z6 e).1).l.length : Nat) : Int)) + ((((z6 e).1).l.length : Nat) : Int))).tmod ((((z6 e).1).l.length : Nat) : Int))).x1) 0))
            have p70 := (show ((zc e (ye ((GS.at ((z6 e).1) ((w64 ((step.tmod ((((z6 e).1).l.length : Nat) : Int)) + ((((z6 e).1).l.length : Nat) : Int))).tmod ((((z6 e).1).l.length : Nat) : Int))).x1) 0)).2.1) = true from (ck_sb h1))
            have p71 := (T_orders_Cost e ((zc e (ye ((GS.at ((z6 e).1) ((w64 ((step.tmod ((((z6 e).1).l.length : Nat) : Int)) + ((((z6 e).1).l.length : Nat) : Int))).tmod ((((z6 e).1).l.length : Nat) : Int))).x1) 0)).1) (best_len e _))
            have p72 := (T_orders_Worst e ((zc e (ye ((GS.at ((z6 e).1) ((w64 ((step.tmod ((((z6 e).1).l.length : Nat) : Int)) + ((((z6 e).1).l.length : Nat) : Int))).tmod ((((z6 e).1).l.length : Nat) : Int))).x1) 0)).1) (best_len e _))
            have p73 := (show (((zc e (ye ((GS.at ((z6 e).1) ((w64 ((step.tmod ((((z6 e).1).l.length : Nat) : Int)) + ((((z6 e).1).l.length : Nat) : Int))).tmod ((((z6 e).1).l.length : Nat) : Int))).x1) 0)).2.2) != 0) = false from (ck_sb2 h1))
            have p74 := (show (((zP e ((zc e (ye ((GS.at ((z6 e).1) ((w64 ((step.tmod ((((z6 e).1).l.length : Nat) : Int)) + ((((z6 e).1).l.length : Nat) : Int))).tmod ((((z6 e).1).l.length : Nat) : Int))).x1) 0)).1)).2) != 0) = false from (ck_sc2 h1))
            have p75 := (show (((zG e ((zc e (ye ((GS.at ((z6 e).1) ((w64 ((step.tmod ((((z6 e).1).l.length : Nat) : Int)) + ((((z6 e).1).l.length : Nat) : Int))).tmod ((((z6 e).1).l.length : Nat) : Int))).x1) 0)).1)).2) != 0) = false from (ck_sw2 h1))
            have p76 := (show (((zP e ((zc e (ye ((GS.at ((z6 e).1) ((w64 ((step.tmod ((((z6 e).1).l.length : Nat) : Int)) + ((((z6 e).1).l.length : Nat) : Int))).tmod ((((z6 e).1).l.length : Nat) : Int))).x1) 0)).1)).1) != ((GS.at ((z6 e).1) ((w64 ((step.tmod ((((z6 e).1).l.length : Nat) : Int)) + ((((z6 e).1).l.length : Nat) : Int))).tmod ((((z6 e).1).l.length : Nat) : Int))).x0)) = false from (ck_sc1 h1))
            have p77 := (show (((zG e ((zc e (ye ((GS.at ((z6 e).1) ((w64 ((step.tmod ((((z6 e).1).l.length : Nat) : Int)) + ((((z6 e).1).l.length : Nat) : Int))).tmod ((((z6 e).1).l.length : Nat) : Int))).x1) 0)).1)).1) != ((GS.at ((z6 e).1) ((w64 ((step.tmod ((((z6 e).1).l.length : Nat) : Int)) + ((((z6 e).1).l.length : Nat) : Int))).tmod ((((z6 e).1).l.length : Nat) : Int))).x1)) = false from (ck_sw1 h1))
            have p78 := (el_in (s := ((z6 e).1)) (f := Arr2_Int.D) (k := 2) (i := w64 (((((z6 e).1).l.length : Nat) : Int) - 1)) (by with_reducible exact sl_lo (by with_reducible assumption)) (by with_reducible exact sl_hi (by with_reducible assumption)))
            cases h17 : decide (((GS.at ((z6 e).1) (w64 (((((z6 e).1).l.length : Nat) : Int) - 1))).x1) > 0) with
            | true =>
              have g17 := of_decide_eq_true h17
              exact zk ((l_OrdersCheap_o1 e items width) ++ ((l_OrdersCheap_o5 e width step) ++ [.dec true, .pure (.tup [.sl (((zc e (w64 (((GS.at ((z6 e).1) (w64 (((((z6 e).1).l.length : Nat) : Int) - 1))).x1) - 1))).1).nl) ((((zc e (w64 (((GS.at ((z6 e).1) (w64 (((((z6 e).1).l.length : Nat) : Int) - 1))).x1) - 1))).1).l).map I) (zsl (((zc e (w64 (((GS.at ((z6 e).1) (w64 (((((z6 e).1).l.length : Nat) : Int) - 1))).x1) - 1))).1).nl) 1) none, B ((zc e (w64 (((GS.at ((z6 e).1) (w64 (((((z6 e).1).l.length : Nat) : Int) - 1))).x1) - 1))).2.1), I ((zc e (w64 (((GS.at ((z6 e).1) (w64 (((((z6 e).1).l.length : Nat) : Int) - 1))).x1) - 1))).2.2)]), .dec false, .dec true])) (And.intro (show (((zc e (w64 (((GS.at ((z6 e).1) (w64 (((((z6 e).1).l.length : Nat) : Int) - 1))).x1) - 1))).2.2) == 0) = true from (ck_l2 h1 h17)) (And.intro (show ((zc e (w64 (((GS.at ((z6 e).1) (w64 (((((z6 e).1).l.length : Nat) : Int) - 1))).x1) - 1))).2.1) = false from (ck_l1 h1 h17)) (And.intro (T_orders_Best e (w64 (((GS.at ((z6 e).1) (w64 (((((z6 e).1).l.length : Nat) : Int) - 1))).x1) - 1))) (And.intro h17 (And.intro p78 (And.intro (zu Arr2_Int.D ((z6 e).1)) (And.intro p77 (And.intro p76 (And.intro p75 (And.intro p74 (And.intro p73 (And.intro p72 (And.intro p71 (And.intro p70 (And.intro p69 (And.intro p68 (And.intro p67 (And.intro (zu Arr2_Int.D ((z6 e).1)) (And.intro (zu Arr2_Int.D ((z6 e).1)) (And.intro p66 (And.intro (zu Arr2_Int.D ((z6 e).1)) (And.intro p65 (And.intro (zu Arr2_Int.D ((z6 e).1)) (And.intro (Eq.refl false) (And.intro p64 (And.intro p63 (And.intro p62 (And.intro p61 (And.intro p60 (And.intro (zu Arr2_Int.D ((z6 e).1)) (And.intro p59 (And.intro p58 (And.intro (Eq.refl false) (And.intro p57 (And.intro p56 (And.intro p55 (And.intro p54 (And.intro (T_orders_Steps e (by omega)) (And.intro (T_orders_Fronts e) (And.intro p53 (And.intro (T_orders_Need e width (by omega)) (And.intro h4 (And.intro (T_orders_Best e width) (And.intro h3 (And.intro h2 (And.intro (T_r_Right e items (by omega)) (And.intro h1 (And.intro (T_r_Valid e) (And.intro (Eq.refl true) (And.intro sane_ok trivial)))))))))))))))))))))))))))))))))))))))))))))))))) (by kernel_rfl)
            | false =>
              have g17 := of_decide_eq_false h17
              exact zk ((l_OrdersCheap_o1 e items width) ++ ((l_OrdersCheap_o5 e width step) ++ [.dec false])) (And.intro h17 (And.intro p78 (And.intro (zu Arr2_Int.D ((z6 e).1)) (And.intro p77 (And.intro p76 (And.intro p75 (And.intro p74 (And.intro p73 (And.intro p72 (And.intro p71 (And.intro p70 (And.intro p69 (And.intro p68 (And.intro p67 (And.intro (zu Arr2_Int.D ((z6 e).1)) (And.intro (zu Arr2_Int.D ((z6 e).1)) (And.intro p66 (And.intro (zu Arr2_Int.D ((z6 e).1)) (And.intro p65 (And.intro (zu Arr2_Int.D ((z6 e).1)) (And.intro (Eq.refl false) (And.intro p64 (And.intro p63 (And.intro p62 (And.intro p61 (And.intro p60 (And.intro (zu Arr2_Int.D ((z6 e).1)) (And.intro p59 (And.intro p58 (And.intro (Eq.refl false) (And.intro p57 (And.intro p56 (And.intro p55 (And.intro p54 (And.intro (T_orders_Steps e (by omega)) (And.intro (T_orders_Fronts e) (And.intro p53 (And.intro (T_orders_Need e width (by omega)) (And.intro h4 (And.intro (T_orders_Best e width) (And.intro h3 (And.intro h2 (And.intro (T_r_Right e items (by omega)) (And.intro h1 (And.intro (T_r_Valid e) (And.intro (Eq.refl true) (And.intro sane_ok trivial))))))))))))))))))))))))))))))))))))))))))))))) (by kernel_rfl)
          | x1 _ _ =>
            rw [l_OrdersCheap_24_all (by assumption)] at h16; cases h16
          | x2 _ _ =>
            rw [l_OrdersCheap_24_all (by assumption)] at h16; cases h16
    | false =>
      exact zk [.pure (B true), .dec true, .pure (B (zV e)), .dec true, .pure (B (r_Right e items)), .dec false] (And.intro h2 (And.intro (T_r_Right e items (by omega)) (And.intro h1 (And.intro (T_r_Valid e) (And.intro (Eq.refl true) (And.intro sane_ok trivial)))))) (by kernel_rfl)
  | false =>
    exact zk [.pure (B true), .dec true, .pure (B (zV e)), .dec false] (And.intro h1 (And.intro (T_r_Valid e) (And.intro (Eq.refl true) (And.intro sane_ok trivial)))) (by kernel_rfl)
end Go.VS

/-
  The seat's program: its tables are right; what its arguments stand for. (Printed by go/oq.py, a program of this claim's own; nothing of it is trusted.)
-/
namespace Go.VS
open Go Go.Proofs Go.RowKit Go.ChangeShapes Go.WideShapes
set_option maxRecDepth 100000
theorem laid_out : laidOutB Try.prog = true := by kernel_rfl
theorem maps_rowed : mapsRowed Try.prog = true := by kernel_rfl
theorem sl_full : ∀ t e, t < Try.prog.types.size → Try.prog.underlying t = some (.slice e) → 0 < Try.prog.cellsOf e := slices_full_of Try.prog (by kernel_rfl)
theorem i64_min : IntKind.i64.min = -9223372036854775808 := by rfl
theorem i64_max : IntKind.i64.max = 9223372036854775807 := by rfl
def R64 (n : Int) : Prop := -9223372036854775808 ≤ n ∧ n ≤ 9223372036854775807
section
variable {H : Type} {enc : TypeId × Value → H} {w : World} {base base' : Nat} {sp : Nat → Bool} {held : Bool} {t : TypeId} {v : Value} {d : DataW H} {p : List MemPlace} {r : Reach}
theorem arg_rep (h : DataW.Trod enc Try.prog w base sp held t v d p) (hv : Value.okWide Try.prog w r base' t v) (ht : topT cfg 8 t = true) (hr : rowedT cfg 8 t = true) :
    ∃ ds, zM (memOf w) noLoc ds v.cells.toList ∧ Sh cfg 8 t ds := by
  obtain ⟨n, hn⟩ := h
  exact trod_rep (C := cfg) (fun t ty h => tyTab_ok.find h) 8 n t _ _ hn ht hr (.inl (plain_arg hv))
theorem repL_one {M : Mem} {m : Loc} {d : D} {cs : List Value} (h : zM M m [d] cs) : ∃ v, cs = [v] ∧ Rep M m d v := by
  simp only [zM] at h
  obtain ⟨v, r, h1, h2, rfl⟩ := h
  exact ⟨v, h1, h2⟩
theorem one_cell {x u : Value} (h : x.cells.toList = [u]) (hp : ∀ cs, x ≠ .agg cs) : x = u := by
  cases x <;> simp [Value.cells] at h <;> first | exact h | exact absurd rfl (hp _)
theorem ok_notAgg (hv : Value.okWide Try.prog w r base' t v) (hs : ∀ fs, Try.prog.underlying t ≠ some (.struct fs)) (ha : ∀ n e, Try.prog.underlying t ≠ some (.array n e)) : ∀ cs, v ≠ .agg cs := by
  rintro cs rfl
  unfold Value.okWide at hv
  split at hv
  · rename_i h; exact hs _ h
  · rename_i h; exact ha _ _ h
  · unfold Cell.okWide at hv
    split at hv <;> try (rename_i h1 h2; cases h2; done)
    unfold Cell.ok at hv
    split at hv <;> first | (rename_i h1 h2; cases h2; done) | cases hv
theorem agg_of (hv : Value.okWide Try.prog w r base' t v) (hs : (∃ fs, Try.prog.underlying t = some (.struct fs)) ∨ (∃ n e, Try.prog.underlying t = some (.array n e))) : ∃ cs, v = .agg cs := by
  unfold Value.okWide at hv
  rcases hs with ⟨fs, hs⟩ | ⟨n, e, hs⟩ <;> rw [hs] at hv <;> simp only [] at hv <;> obtain ⟨cs, rfl, _⟩ := hv <;> exact ⟨cs, rfl⟩
end
theorem sh3 {f : Nat} {ds : List D} (h : Sh cfg (f + 1) 3 ds) : ∃ x : Int, ds = [I x] ∧ R64 x := by
  rw [Sh, cfg_ty, cty3] at h
  simp only [ty3] at h
  obtain ⟨n, h1, h2, h3⟩ := h
  rw [i64_min] at h2
  rw [i64_max] at h3
  exact ⟨n, h1, h2, h3⟩
theorem sh24 {f : Nat} {ds : List D} (h : Sh cfg (f + 2) 24 ds) : ∃ x : S_Span, ds = [I x.lo, I x.hi] ∧ True := by
  rw [Sh, cfg_ty, cty24] at h
  simp only [ty24] at h
  obtain ⟨hl, hf⟩ := h
  obtain ⟨t0, q0, z0⟩ := hf (3, 0) (by simp)
  obtain rfl : t0 = ty3 := (Option.some.inj (cty3.symm.trans q0)).symm
  obtain ⟨x0, e0, r0⟩ := sh3 (f := f + 0) z0
  obtain ⟨t1, q1, z1⟩ := hf (3, 1) (by simp)
  obtain rfl : t1 = ty3 := (Option.some.inj (cty3.symm.trans q1)).symm
  obtain ⟨x1, e1, r1⟩ := sh3 (f := f + 0) z1
  rcases ds with _ | ⟨c0, _ | ⟨c1, _ | ⟨y, r⟩⟩⟩
  all_goals simp at hl
  simp [ty3] at e0
  simp [ty3] at e1
  exact ⟨⟨x0, x1⟩, by simp [*], trivial⟩
theorem sh70 {f : Nat} {ds : List D} (h : Sh cfg (f + 3) 70 ds) : ∃ x : S_Item, ds = [I x.now.lo, I x.now.hi, I x.cost, I x.error] ∧ True := by
  rw [Sh, cfg_ty, cty70] at h
  simp only [ty70] at h
  obtain ⟨hl, hf⟩ := h
  obtain ⟨t0, q0, z0⟩ := hf (24, 0) (by simp)
  obtain rfl : t0 = ty24 := (Option.some.inj (cty24.symm.trans q0)).symm
  obtain ⟨x0, e0, r0⟩ := sh24 (f := f + 0) z0
  obtain ⟨t1, q1, z1⟩ := hf (3, 2) (by simp)
  obtain rfl : t1 = ty3 := (Option.some.inj (cty3.symm.trans q1)).symm
  obtain ⟨x1, e1, r1⟩ := sh3 (f := f + 1) z1
  obtain ⟨t2, q2, z2⟩ := hf (3, 3) (by simp)
  obtain rfl : t2 = ty3 := (Option.some.inj (cty3.symm.trans q2)).symm
  obtain ⟨x2, e2, r2⟩ := sh3 (f := f + 1) z2
  rcases ds with _ | ⟨c0, _ | ⟨c1, _ | ⟨c2, _ | ⟨c3, _ | ⟨y, r⟩⟩⟩⟩⟩
  all_goals simp at hl
  simp [ty24] at e0
  simp [ty3] at e1
  simp [ty3] at e2
  exact ⟨⟨x0, x1, x2⟩, by simp [*], trivial⟩
theorem sh22 {f : Nat} {ds : List D} (h : Sh cfg (f + 4) 22 ds) : ∃ x : GS S_Item, ds = [.sl x.nl (x.l.map S_Item.D) (zsl x.nl 4) none] ∧ x.l.length ≤ 9223372036854775807 := by
  rw [Sh, cfg_ty, cty22] at h
  simp only [ty22] at h
  rcases h with h | ⟨els, te, h1, h2, h3, h4⟩
  · exact ⟨GS.nil, h, by simp [GS.nil]⟩
  · obtain rfl : te = ty70 := (Option.some.inj (cty70.symm.trans h1)).symm
    have key : ∀ els : List D, (∀ d ∈ els, Sh cfg (f + 3) 70 d.cells ∧ (ty70.isAgg = true → d = .agg d.cells) ∧ (ty70.isAgg = false → d.cells = [d])) → ∃ l : List S_Item, els = l.map S_Item.D := by
      intro els
      induction els with
      | nil => intro _; exact ⟨[], rfl⟩
      | cons d els ih =>
        intro hd
        obtain ⟨l, hl⟩ := ih fun d' h' => hd d' (List.mem_cons_of_mem _ h')
        obtain ⟨q1, q2, q3⟩ := hd d (by simp)
        obtain ⟨a, e, _⟩ := sh70 (f := f + 0) q1
        have hx : d = S_Item.D a := by rw [q2 rfl, e]; rfl
        exact ⟨a :: l, by rw [List.map_cons, ← hx, ← hl]⟩
    obtain ⟨l, rfl⟩ := key els h4
    refine ⟨GS.some l, h2, ?_⟩
    simp only [List.length_map, maxLen] at h3
    simp only [GS.some]
    omega
theorem sh26 {f : Nat} {ds : List D} (h : Sh cfg (f + 5) 26 ds) : ∃ x : S_Estate, ds = [.sl x.items.nl (x.items.l.map S_Item.D) (zsl x.items.nl 4) none, I x.whole.lo, I x.whole.hi] ∧ x.items.l.length ≤ 9223372036854775807 := by
  rw [Sh, cfg_ty, cty26] at h
  simp only [ty26] at h
  obtain ⟨hl, hf⟩ := h
  obtain ⟨t0, q0, z0⟩ := hf (22, 0) (by simp)
  obtain rfl : t0 = ty22 := (Option.some.inj (cty22.symm.trans q0)).symm
  obtain ⟨x0, e0, r0⟩ := sh22 (f := f + 0) z0
  obtain ⟨t1, q1, z1⟩ := hf (24, 1) (by simp)
  obtain rfl : t1 = ty24 := (Option.some.inj (cty24.symm.trans q1)).symm
  obtain ⟨x1, e1, r1⟩ := sh24 (f := f + 2) z1
  rcases ds with _ | ⟨c0, _ | ⟨c1, _ | ⟨c2, _ | ⟨y, r⟩⟩⟩⟩
  all_goals simp at hl
  simp [ty22] at e0
  simp [ty24] at e1
  exact ⟨⟨x0, x1⟩, by simp [*], r0⟩
theorem sh37 {f : Nat} {ds : List D} (h : Sh cfg (f + 2) 37 ds) : ∃ x : GS Int, ds = [.sl x.nl (x.l.map I) (zsl x.nl 1) none] ∧ x.l.length ≤ 9223372036854775807 := by
  rw [Sh, cfg_ty, cty37] at h
  simp only [ty37] at h
  rcases h with h | ⟨els, te, h1, h2, h3, h4⟩
  · exact ⟨GS.nil, h, by simp [GS.nil]⟩
  · obtain rfl : te = ty3 := (Option.some.inj (cty3.symm.trans h1)).symm
    have key : ∀ els : List D, (∀ d ∈ els, Sh cfg (f + 1) 3 d.cells ∧ (ty3.isAgg = true → d = .agg d.cells) ∧ (ty3.isAgg = false → d.cells = [d])) → ∃ l : List Int, els = l.map I := by
      intro els
      induction els with
      | nil => intro _; exact ⟨[], rfl⟩
      | cons d els ih =>
        intro hd
        obtain ⟨l, hl⟩ := ih fun d' h' => hd d' (List.mem_cons_of_mem _ h')
        obtain ⟨q1, q2, q3⟩ := hd d (by simp)
        obtain ⟨a, e, _⟩ := sh3 (f := f + 0) q1
        have hx : d = I a := by have := (q3 rfl).symm.trans e; simpa using this
        exact ⟨a :: l, by rw [List.map_cons, ← hx, ← hl]⟩
    obtain ⟨l, rfl⟩ := key els h4
    refine ⟨GS.some l, h2, ?_⟩
    simp only [List.length_map, maxLen] at h3
    simp only [GS.some]
    omega
theorem arg3 {H : Type} {enc : TypeId × Value → H} {w : World} {base base' : Nat} {sp : Nat → Bool} {held : Bool} {v : Value} {d : DataW H} {p : List MemPlace} {r : Reach} (h : DataW.Trod enc Try.prog w base sp held 3 v d p) (hv : Value.okWide Try.prog w r base' 3 v) : ∃ x : Int, Rep (memOf w) noLoc (I x) v ∧ R64 x := by
  obtain ⟨ds, h1, h2⟩ := arg_rep h hv (by kernel_rfl) (by kernel_rfl)
  obtain ⟨x, rfl, hx⟩ := sh3 (f := 7) h2
  obtain ⟨u, e, hu⟩ := repL_one h1
  exact ⟨x, by rw [one_cell e (ok_notAgg hv (by rw [Try.underlying3]; simp) (by rw [Try.underlying3]; simp))]; exact hu, hx⟩
theorem arg26 {H : Type} {enc : TypeId × Value → H} {w : World} {base base' : Nat} {sp : Nat → Bool} {held : Bool} {v : Value} {d : DataW H} {p : List MemPlace} {r : Reach} (h : DataW.Trod enc Try.prog w base sp held 26 v d p) (hv : Value.okWide Try.prog w r base' 26 v) : ∃ x : S_Estate, Rep (memOf w) noLoc (S_Estate.D x) v ∧ x.items.l.length ≤ 9223372036854775807 := by
  obtain ⟨ds, h1, h2⟩ := arg_rep h hv (by kernel_rfl) (by kernel_rfl)
  obtain ⟨x, rfl, hx⟩ := sh26 (f := 3) h2
  obtain ⟨cs, rfl⟩ := agg_of hv (.inl ⟨_, Try.underlying26⟩)
  refine ⟨x, ?_, hx⟩
  simp only [Rep, S_Estate.D]
  exact ⟨cs, rfl, by simpa [Value.cells] using h1⟩
theorem arg37 {H : Type} {enc : TypeId × Value → H} {w : World} {base base' : Nat} {sp : Nat → Bool} {held : Bool} {v : Value} {d : DataW H} {p : List MemPlace} {r : Reach} (h : DataW.Trod enc Try.prog w base sp held 37 v d p) (hv : Value.okWide Try.prog w r base' 37 v) : ∃ x : GS Int, Rep (memOf w) noLoc (GS.D I 1 x) v ∧ x.l.length ≤ 9223372036854775807 := by
  obtain ⟨ds, h1, h2⟩ := arg_rep h hv (by kernel_rfl) (by kernel_rfl)
  obtain ⟨x, rfl, hx⟩ := sh37 (f := 6) h2
  obtain ⟨u, e, hu⟩ := repL_one h1
  exact ⟨x, by rw [one_cell e (ok_notAgg hv (by rw [Try.underlying37]; simp) (by rw [Try.underlying37]; simp))]; exact hu, hx⟩
end Go.VS

/-
  Orders: OrdersCheap answers true. (A text of this claim's own; nothing of it is trusted.)
-/
namespace Go.VS
open Go Go.Proofs
theorem ocheap_true (e : S_Estate) (items : GS Int) (width step : Int) : l_OrdersCheap e items width step = true := by
  unfold l_OrdersCheap
  cases hv : zV e with
  | false => rfl
  | true =>
    rw [l_OrdersCheap_24_all hv]
    simp only [Bool.cond_self]
theorem law_cheap (e : S_Estate) (items : GS Int) (width step : Int) : e.items.l.length ≤ 9223372036854775807 → items.l.length ≤ 9223372036854775807 → R64 width → R64 step → (lim cfg).pure 4 [S_Estate.D e, GS.D I 1 items, I width, I step] = some (B true) := fun _ h _ _ => by
  rw [T_l_OrdersCheap e items width step h, ocheap_true]
end Go.VS

