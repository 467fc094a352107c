/- Nothing of a statement is proved in this text alone: it is part 5 of the proof's own tools, an evaluator of the code over deep values, its soundness, and what it makes of this seat's functions. Conditions: none beyond the statement's own. -/
import Derived.Test.YtpkjnefhnedfdaaGreatDoorVsRCOne4
import Derived.Test.YtpkjnefhnedfdaaGreatDoorRows
import Derived.Test.YtpkjnefhnedfdaaGreatDoorTie
import Derived.WalkKit
import Derived.ProofKit
import Derived.Deep.DeepHandedRow
import Derived.Lib.LaidTab
set_option linter.unusedSimpArgs false
set_option linter.unusedVariables false
namespace Go.VS
open Go Go.Proofs
set_option maxHeartbeats 0
set_option linter.unusedSimpArgs false
set_option linter.unusedVariables false
noncomputable def lp6_12 : Code := subC [1, 1, 1, 1, 0, 1, 0, 0, 1, 1, 0, 0, 1, 1, 1, 0, 1, 0, 0] (bodyC Tryz.f6)

def sd290 (a : GS S_Span) (b : GS S_Span) (cuts : GS Int) (i7 : Nat) (i12 : Nat) (q12_0 : Int) (q12_1 : Int) (x12 : Int) (v12_0 : List S_Span) (v12_1 : Bool) : St := ⟨126, [(48, I ((i12 + 1 : Nat) : Int)), (78, I ((i12 + 1 : Nat) : Int)), (10, B false), (7, .lsl 3 0 ((v12_0 ++ [(⟨w64 (x12 + 1), q12_1⟩ : S_Span), (⟨q12_0, x12⟩ : S_Span), (⟨x12, w64 (x12 - 1)⟩ : S_Span)]).length) 2 none), (77, .lsl 3 0 ((v12_0 ++ [(⟨w64 (x12 + 1), q12_1⟩ : S_Span), (⟨q12_0, x12⟩ : S_Span), (⟨x12, w64 (x12 - 1)⟩ : S_Span)]).length) 2 none), (76, .lsl 2 0 3 2 (some 3)), (75, .agg [I x12, I (w64 (x12 - 1))]), (74, I (w64 (x12 - 1))), (73, I x12), (72, I x12), (71, .agg [I q12_0, I x12]), (70, I x12), (69, I q12_0), (68, .lref 1 0 2 0), (67, .agg [I (w64 (x12 + 1)), I q12_1]), (66, I q12_1), (65, .lref 1 0 2 1), (64, I (w64 (x12 + 1))), (63, I x12), (62, .lsl 0 0 v12_0.length 2 none), (61, B true), (60, B true), (59, I q12_1), (58, .lref 1 0 2 1), (57, I x12), (56, B true), (55, B true), (54, I q12_0), (53, .lref 1 0 2 0), (52, I x12), (12, I x12), (51, I x12), (50, .ptr (I x12)), (49, B true), (0, .sl a.nl (a.l.map S_Span.D) (zsl a.nl 2) none), (1, .sl b.nl (b.l.map S_Span.D) (zsl b.nl 2) none), (2, .sl cuts.nl (cuts.l.map I) (zsl cuts.nl 1) none), (7, .lsl 0 0 v12_0.length 2 none), (9, .lref 1 0 2 0), (10, B v12_1), (34, I ((a.l.length : Nat) : Int)), (35, I ((i7 : Nat) : Int)), (46, .sl cuts.nl (cuts.l.map I) (zsl cuts.nl 1) none), (47, I ((cuts.l.length : Nat) : Int)), (48, I ((i12 : Nat) : Int))], [(1, ⟨[.agg [I q12_0, I q12_1]], 2, false⟩), (2, ⟨[.agg [I (w64 (x12 + 1)), I q12_1], .agg [I q12_0, I x12], .agg [I x12, I (w64 (x12 - 1))]], 2, false⟩), (3, ⟨(v12_0 ++ [(⟨w64 (x12 + 1), q12_1⟩ : S_Span), (⟨q12_0, x12⟩ : S_Span), (⟨x12, w64 (x12 - 1)⟩ : S_Span)]).map S_Span.D, 2, false⟩)], 4, 0⟩

def sd291 (a : GS S_Span) (b : GS S_Span) (cuts : GS Int) (i7 : Nat) (i12 : Nat) (q12_0 : Int) (q12_1 : Int) (x12 : Int) (v12_0 : List S_Span) (v12_1 : Bool) : St := ⟨126, [(48, I ((i12 + 1 : Nat) : Int)), (78, I ((i12 + 1 : Nat) : Int)), (61, B false), (60, B false), (59, I q12_1), (58, .lref 1 0 2 1), (57, I x12), (56, B true), (55, B true), (54, I q12_0), (53, .lref 1 0 2 0), (52, I x12), (12, I x12), (51, I x12), (50, .ptr (I x12)), (49, B true), (0, .sl a.nl (a.l.map S_Span.D) (zsl a.nl 2) none), (1, .sl b.nl (b.l.map S_Span.D) (zsl b.nl 2) none), (2, .sl cuts.nl (cuts.l.map I) (zsl cuts.nl 1) none), (7, .lsl 0 0 v12_0.length 2 none), (9, .lref 1 0 2 0), (10, B v12_1), (34, I ((a.l.length : Nat) : Int)), (35, I ((i7 : Nat) : Int)), (46, .sl cuts.nl (cuts.l.map I) (zsl cuts.nl 1) none), (47, I ((cuts.l.length : Nat) : Int)), (48, I ((i12 : Nat) : Int))], [(0, ⟨v12_0.map S_Span.D, 2, false⟩), (1, ⟨[.agg [I q12_0, I q12_1]], 2, false⟩)], 2, 0⟩

def sd292 (a : GS S_Span) (b : GS S_Span) (cuts : GS Int) (i7 : Nat) (i12 : Nat) (q12_0 : Int) (q12_1 : Int) (x12 : Int) (v12_0 : List S_Span) (v12_1 : Bool) : St := ⟨126, [(48, I ((i12 + 1 : Nat) : Int)), (78, I ((i12 + 1 : Nat) : Int)), (61, B false), (60, .tup []), (59, .tup []), (58, .tup []), (57, .tup []), (56, B false), (55, B false), (54, I q12_0), (53, .lref 1 0 2 0), (52, I x12), (12, I x12), (51, I x12), (50, .ptr (I x12)), (49, B true), (0, .sl a.nl (a.l.map S_Span.D) (zsl a.nl 2) none), (1, .sl b.nl (b.l.map S_Span.D) (zsl b.nl 2) none), (2, .sl cuts.nl (cuts.l.map I) (zsl cuts.nl 1) none), (7, .lsl 0 0 v12_0.length 2 none), (9, .lref 1 0 2 0), (10, B v12_1), (34, I ((a.l.length : Nat) : Int)), (35, I ((i7 : Nat) : Int)), (46, .sl cuts.nl (cuts.l.map I) (zsl cuts.nl 1) none), (47, I ((cuts.l.length : Nat) : Int)), (48, I ((i12 : Nat) : Int))], [(0, ⟨v12_0.map S_Span.D, 2, false⟩), (1, ⟨[.agg [I q12_0, I q12_1]], 2, false⟩)], 2, 0⟩

inductive LR_l_RangesOne_12 where
  | x0 (v12_0 : List S_Span) (v12_1 : Bool)
instance : Inhabited LR_l_RangesOne_12 := ⟨.x0 default default⟩
def l_RangesOne_12 (q12_0 : Int) (q12_1 : Int) : List Int → (List S_Span) → Bool → LR_l_RangesOne_12
  | [], v12_0, v12_1 => .x0 v12_0 v12_1
  | x12 :: rest12, v12_0, v12_1 =>
    bif decide (x12 ≥ q12_0) then
      bif decide (x12 < q12_1) then
        l_RangesOne_12 q12_0 q12_1 rest12 (v12_0 ++ [(⟨w64 (x12 + 1), q12_1⟩ : S_Span), (⟨q12_0, x12⟩ : S_Span), (⟨x12, w64 (x12 - 1)⟩ : S_Span)]) false
      else
        l_RangesOne_12 q12_0 q12_1 rest12 v12_0 v12_1
    else
      l_RangesOne_12 q12_0 q12_1 rest12 v12_0 v12_1
def lr_l_RangesOne_12 (a : GS S_Span) (b : GS S_Span) (cuts : GS Int) (i7 : Nat) (q12_0 : Int) (q12_1 : Int) : LR_l_RangesOne_12 → Exit × St
  | .x0 v12_0 v12_1 => ((.exit 2), ⟨126, [(49, B false), (0, .sl a.nl (a.l.map S_Span.D) (zsl a.nl 2) none), (1, .sl b.nl (b.l.map S_Span.D) (zsl b.nl 2) none), (2, .sl cuts.nl (cuts.l.map I) (zsl cuts.nl 1) none), (7, .lsl 0 0 v12_0.length 2 none), (9, .lref 1 0 2 0), (10, B v12_1), (34, I ((a.l.length : Nat) : Int)), (35, I ((i7 : Nat) : Int)), (46, .sl cuts.nl (cuts.l.map I) (zsl cuts.nl 1) none), (47, I ((cuts.l.length : Nat) : Int)), (48, I ((cuts.l.length : Nat) : Int))], [(0, ⟨v12_0.map S_Span.D, 2, false⟩), (1, ⟨[.agg [I q12_0, I q12_1]], 2, false⟩)], 2, 0⟩)
def iv_l_RangesOne_12 (a : GS S_Span) (b : GS S_Span) (cuts : GS Int) (i7 : Nat) (q12_0 : Int) (q12_1 : Int) : LR_l_RangesOne_12 → Prop
  | .x0 v12_0 v12_1 => (v12_0.length ≤ 193 * i7 + 3 * cuts.l.length)
theorem lp_l_RangesOne_12 (a : GS S_Span) (b : GS S_Span) (cuts : GS Int) (i7 : Nat) (q12_0 : Int) (q12_1 : Int) : ∀ (rest12 : List Int) (i12 : Nat) (v12_0 : List S_Span) (v12_1 : Bool) (hd12 : cuts.l.drop i12 = rest12) (hi12 : i12 ≤ cuts.l.length) (hc64 : cuts.l.length ≤ 64) (hi64 : i7 < 64) (hg12_v12_0 : v12_0.length ≤ 193 * i7 + 3 * i12) (hL12 : cuts.l.length ≤ 1099511627776), (lim cfg).loop 6 lp6_12 ⟨126, [(0, .sl a.nl (a.l.map S_Span.D) (zsl a.nl 2) none), (1, .sl b.nl (b.l.map S_Span.D) (zsl b.nl 2) none), (2, .sl cuts.nl (cuts.l.map I) (zsl cuts.nl 1) none), (7, .lsl 0 0 v12_0.length 2 none), (9, .lref 1 0 2 0), (10, B v12_1), (34, I ((a.l.length : Nat) : Int)), (35, I ((i7 : Nat) : Int)), (46, .sl cuts.nl (cuts.l.map I) (zsl cuts.nl 1) none), (47, I ((cuts.l.length : Nat) : Int)), (48, I ((i12 : Nat) : Int))], [(0, ⟨v12_0.map S_Span.D, 2, false⟩), (1, ⟨[.agg [I q12_0, I q12_1]], 2, false⟩)], 2, 0⟩ = some (lr_l_RangesOne_12 a b cuts i7 q12_0 q12_1 (l_RangesOne_12 q12_0 q12_1 rest12 v12_0 v12_1)) := by
  intro rest12
  induction rest12 with
  | nil =>
    intro i12 v12_0 v12_1 hd12 hi12 hc64 hi64 hg12_v12_0 hL12
    unfold l_RangesOne_12
    obtain rfl : i12 = cuts.l.length := nil_eq hd12 hi12
    exact zF [.dec false] (And.intro (lt_no hd12) trivial) (by kernel_rfl)
  | cons x12 rest12 ih =>
    intro i12 v12_0 v12_1 hd12 hi12 hc64 hi64 hg12_v12_0 hL12
    have hlt12 := ze hd12
    unfold l_RangesOne_12
    have p1 := (el_at (s := cuts) (f := I) (k := 1) hd12)
    cases h21 : decide (x12 ≥ q12_0) with
    | true =>
      have g21 := of_decide_eq_true h21
      cases h22 : decide (x12 < q12_1) with
      | true =>
        have g22 := of_decide_eq_true h22
        exact po_turn' (ks := [0, 1, 2, 7, 9, 10, 34, 35, 46, 47, 48]) (st' := (sd290 a b cuts i7 i12 q12_0 q12_1 x12 v12_0 v12_1)) [.dec true, .el (I x12), .dec true, .dec true, .op (some 77) ⟨.lsl 3 0 ((v12_0 ++ [(⟨w64 (x12 + 1), q12_1⟩ : S_Span), (⟨q12_0, x12⟩ : S_Span), (⟨x12, w64 (x12 - 1)⟩ : S_Span)]).length) 2 none, [(0, none), (3, some ⟨(v12_0 ++ [(⟨w64 (x12 + 1), q12_1⟩ : S_Span), (⟨q12_0, x12⟩ : S_Span), (⟨x12, w64 (x12 - 1)⟩ : S_Span)]).map S_Span.D, 2, false⟩)], [0, 2], 4⟩, .rw 78 (I ((i12 + 1 : Nat) : Int))] (And.intro (inc_rw (i := i12) (by have := ze hd12; omega)) (And.intro (app_moreR (te := ty25) (gO := zr [(0, ⟨v12_0.map S_Span.D, 2, false⟩), (1, ⟨[.agg [I q12_0, I q12_1]], 2, false⟩), (2, ⟨[.agg [I (w64 (x12 + 1)), I q12_1], .agg [I q12_0, I x12], .agg [I x12, I (w64 (x12 - 1))]], 2, false⟩)]) (nxt := 3) (o := 0) (v := v12_0) z8 (o2 := 2) (l := [(⟨w64 (x12 + 1), q12_1⟩ : S_Span), (⟨q12_0, x12⟩ : S_Span), (⟨x12, w64 (x12 - 1)⟩ : S_Span)]) (cap := (some 3)) (fz := false) (by kernel_rfl) rfl (by kernel_rfl) rfl (by kernel_rfl) (by decide) ⟨by simp only [ty25, big] <;> (first | assumption | omega | (exact two_bd (by omega) (by omega)) | (exact add_some (by omega)) | (exact add_some' (by omega)) | (exact one_some (by omega)) | (exact one_some' (by omega)) | (exact zC _ (by omega)) | (exact ok_len (by assumption)) | (exact tk_len (by assumption)) | (simp only [zm] at * <;> omega) | (simp only [srtL, GS.some_l, List.length_set, List.length_append, List.length_cons, List.length_nil] at * <;> first | with_reducible assumption | omega) | (simp only [srtL, GS.some_l, List.length_set, List.length_append, List.length_cons, List.length_nil, zm] at * <;> first | with_reducible assumption | omega) | (simp at * <;> omega)), by simp only [big] <;> (first | assumption | omega | (exact two_bd (by omega) (by omega)) | (exact add_some (by omega)) | (exact add_some' (by omega)) | (exact one_some (by omega)) | (exact one_some' (by omega)) | (exact zC _ (by omega)) | (exact ok_len (by assumption)) | (exact tk_len (by assumption)) | (simp only [zm] at * <;> omega) | (simp only [srtL, GS.some_l, List.length_set, List.length_append, List.length_cons, List.length_nil] at * <;> first | with_reducible assumption | omega) | (simp only [srtL, GS.some_l, List.length_set, List.length_append, List.length_cons, List.length_nil, zm] at * <;> first | with_reducible assumption | omega) | (simp at * <;> omega))⟩) (And.intro h22 (And.intro h21 (And.intro p1 (And.intro (lt_at hd12) trivial)))))) (by kernel_rfl) (by (simp only [sd290, go_sem, List.length_set, Nat.reduceAdd, Nat.reduceEqDiff, Nat.reduceLT, Nat.reduceLeDiff, bI2, zl.idsL, zl.renL, zl.snapAll, z8.idsL, z8.renL, z8.snapAll]) <;> rfl) (ih (i12 + 1) (v12_0 ++ [(⟨w64 (x12 + 1), q12_1⟩ : S_Span), (⟨q12_0, x12⟩ : S_Span), (⟨x12, w64 (x12 - 1)⟩ : S_Span)]) false (zg hd12) (ze hd12) (by omega) (by omega) (by simp only [List.length_append, List.length_cons, List.length_nil] at * <;> omega) (by omega)) (by kernel_rfl)
      | false =>
        have g22 := of_decide_eq_false h22
        exact po_turn' (ks := [0, 1, 2, 7, 9, 10, 34, 35, 46, 47, 48]) (st' := (sd291 a b cuts i7 i12 q12_0 q12_1 x12 v12_0 v12_1)) [.dec true, .el (I x12), .dec true, .dec false, .rw 78 (I ((i12 + 1 : Nat) : Int))] (And.intro (inc_rw (i := i12) (by have := ze hd12; omega)) (And.intro h22 (And.intro h21 (And.intro p1 (And.intro (lt_at hd12) trivial))))) (by kernel_rfl) (by (simp only [sd291, go_sem, List.length_set, Nat.reduceAdd, Nat.reduceEqDiff, Nat.reduceLT, Nat.reduceLeDiff, bI2, zl.idsL, zl.renL, zl.snapAll, z8.idsL, z8.renL, z8.snapAll]) <;> rfl) (ih (i12 + 1) v12_0 v12_1 (zg hd12) (ze hd12) (by omega) (by omega) (by omega) (by omega)) (by kernel_rfl)
    | false =>
      have g21 := of_decide_eq_false h21
      exact po_turn' (ks := [0, 1, 2, 7, 9, 10, 34, 35, 46, 47, 48]) (st' := (sd292 a b cuts i7 i12 q12_0 q12_1 x12 v12_0 v12_1)) [.dec true, .el (I x12), .dec false, .rw 78 (I ((i12 + 1 : Nat) : Int))] (And.intro (inc_rw (i := i12) (by have := ze hd12; omega)) (And.intro h21 (And.intro p1 (And.intro (lt_at hd12) trivial)))) (by kernel_rfl) (by (simp only [sd292, go_sem, List.length_set, Nat.reduceAdd, Nat.reduceEqDiff, Nat.reduceLT, Nat.reduceLeDiff, bI2, zl.idsL, zl.renL, zl.snapAll, z8.idsL, z8.renL, z8.snapAll]) <;> rfl) (ih (i12 + 1) v12_0 v12_1 (zg hd12) (ze hd12) (by omega) (by omega) (by omega) (by omega)) (by kernel_rfl)
theorem ivt_l_RangesOne_12 (a : GS S_Span) (b : GS S_Span) (cuts : GS Int) (i7 : Nat) (q12_0 : Int) (q12_1 : Int) : ∀ (rest12 : List Int) (i12 : Nat) (v12_0 : List S_Span) (v12_1 : Bool) (hd12 : cuts.l.drop i12 = rest12) (hi12 : i12 ≤ cuts.l.length) (hc64 : cuts.l.length ≤ 64) (hi64 : i7 < 64) (hg12_v12_0 : v12_0.length ≤ 193 * i7 + 3 * i12) (hL12 : cuts.l.length ≤ 1099511627776), iv_l_RangesOne_12 a b cuts i7 q12_0 q12_1 (l_RangesOne_12 q12_0 q12_1 rest12 v12_0 v12_1) := by
  intro rest12
  induction rest12 with
  | nil =>
    intro i12 v12_0 v12_1 hd12 hi12 hc64 hi64 hg12_v12_0 hL12
    unfold l_RangesOne_12
    obtain rfl : i12 = cuts.l.length := nil_eq hd12 hi12
    exact hg12_v12_0
  | cons x12 rest12 ih =>
    intro i12 v12_0 v12_1 hd12 hi12 hc64 hi64 hg12_v12_0 hL12
    have hlt12 := ze hd12
    unfold l_RangesOne_12
    cases h21 : decide (x12 ≥ q12_0) with
    | true =>
      have g21 := of_decide_eq_true h21
      cases h22 : decide (x12 < q12_1) with
      | true =>
        have g22 := of_decide_eq_true h22
        exact ih (i12 + 1) (v12_0 ++ [(⟨w64 (x12 + 1), q12_1⟩ : S_Span), (⟨q12_0, x12⟩ : S_Span), (⟨x12, w64 (x12 - 1)⟩ : S_Span)]) false (zg hd12) (ze hd12) (by omega) (by omega) (by simp only [List.length_append, List.length_cons, List.length_nil] at * <;> omega) (by omega)
      | false =>
        have g22 := of_decide_eq_false h22
        exact ih (i12 + 1) v12_0 v12_1 (zg hd12) (ze hd12) (by omega) (by omega) (by omega) (by omega)
    | false =>
      have g21 := of_decide_eq_false h21
      exact ih (i12 + 1) v12_0 v12_1 (zg hd12) (ze hd12) (by omega) (by omega) (by omega) (by omega)

def sd294 (a : GS S_Span) (b : GS S_Span) (cuts : GS Int) (i7 : Nat) (i12p1 : Nat) (q12p1_0 : Int) (q12p1_1 : Int) (x12p1 : Int) (va12p1_0 : List S_Span) : St := ⟨126, [(48, I ((i12p1 + 1 : Nat) : Int)), (78, I ((i12p1 + 1 : Nat) : Int)), (10, B false), (7, .lsl 3 0 ((va12p1_0 ++ [(⟨w64 (x12p1 + 1), q12p1_1⟩ : S_Span), (⟨q12p1_0, x12p1⟩ : S_Span), (⟨x12p1, w64 (x12p1 - 1)⟩ : S_Span)]).length) 2 none), (77, .lsl 3 0 ((va12p1_0 ++ [(⟨w64 (x12p1 + 1), q12p1_1⟩ : S_Span), (⟨q12p1_0, x12p1⟩ : S_Span), (⟨x12p1, w64 (x12p1 - 1)⟩ : S_Span)]).length) 2 none), (76, .lsl 2 0 3 2 (some 3)), (75, .agg [I x12p1, I (w64 (x12p1 - 1))]), (74, I (w64 (x12p1 - 1))), (73, I x12p1), (72, I x12p1), (71, .agg [I q12p1_0, I x12p1]), (70, I x12p1), (69, I q12p1_0), (68, .lref 1 0 2 0), (67, .agg [I (w64 (x12p1 + 1)), I q12p1_1]), (66, I q12p1_1), (65, .lref 1 0 2 1), (64, I (w64 (x12p1 + 1))), (63, I x12p1), (62, .lsl 0 0 va12p1_0.length 2 none), (61, B true), (60, B true), (59, I q12p1_1), (58, .lref 1 0 2 1), (57, I x12p1), (56, B true), (55, B true), (54, I q12p1_0), (53, .lref 1 0 2 0), (52, I x12p1), (12, I x12p1), (51, I x12p1), (50, .ptr (I x12p1)), (49, B true), (0, .sl a.nl (a.l.map S_Span.D) (zsl a.nl 2) none), (1, .sl b.nl (b.l.map S_Span.D) (zsl b.nl 2) none), (2, .sl cuts.nl (cuts.l.map I) (zsl cuts.nl 1) none), (7, .lsl 0 0 va12p1_0.length 2 none), (9, .lref 1 0 2 0), (10, B false), (34, I ((a.l.length : Nat) : Int)), (35, I ((i7 : Nat) : Int)), (46, .sl cuts.nl (cuts.l.map I) (zsl cuts.nl 1) none), (47, I ((cuts.l.length : Nat) : Int)), (48, I ((i12p1 : Nat) : Int))], [(1, ⟨[.agg [I q12p1_0, I q12p1_1]], 2, false⟩), (2, ⟨[.agg [I (w64 (x12p1 + 1)), I q12p1_1], .agg [I q12p1_0, I x12p1], .agg [I x12p1, I (w64 (x12p1 - 1))]], 2, false⟩), (3, ⟨(va12p1_0 ++ [(⟨w64 (x12p1 + 1), q12p1_1⟩ : S_Span), (⟨q12p1_0, x12p1⟩ : S_Span), (⟨x12p1, w64 (x12p1 - 1)⟩ : S_Span)]).map S_Span.D, 2, false⟩)], 4, 0⟩

def sd295 (a : GS S_Span) (b : GS S_Span) (cuts : GS Int) (i7 : Nat) (i12p1 : Nat) (q12p1_0 : Int) (q12p1_1 : Int) (x12p1 : Int) (va12p1_0 : List S_Span) : St := ⟨126, [(48, I ((i12p1 + 1 : Nat) : Int)), (78, I ((i12p1 + 1 : Nat) : Int)), (61, B false), (60, B false), (59, I q12p1_1), (58, .lref 1 0 2 1), (57, I x12p1), (56, B true), (55, B true), (54, I q12p1_0), (53, .lref 1 0 2 0), (52, I x12p1), (12, I x12p1), (51, I x12p1), (50, .ptr (I x12p1)), (49, B true), (0, .sl a.nl (a.l.map S_Span.D) (zsl a.nl 2) none), (1, .sl b.nl (b.l.map S_Span.D) (zsl b.nl 2) none), (2, .sl cuts.nl (cuts.l.map I) (zsl cuts.nl 1) none), (7, .lsl 0 0 va12p1_0.length 2 none), (9, .lref 1 0 2 0), (10, B false), (34, I ((a.l.length : Nat) : Int)), (35, I ((i7 : Nat) : Int)), (46, .sl cuts.nl (cuts.l.map I) (zsl cuts.nl 1) none), (47, I ((cuts.l.length : Nat) : Int)), (48, I ((i12p1 : Nat) : Int))], [(0, ⟨va12p1_0.map S_Span.D, 2, false⟩), (1, ⟨[.agg [I q12p1_0, I q12p1_1]], 2, false⟩)], 2, 0⟩

def sd296 (a : GS S_Span) (b : GS S_Span) (cuts : GS Int) (i7 : Nat) (i12p1 : Nat) (q12p1_0 : Int) (q12p1_1 : Int) (x12p1 : Int) (va12p1_0 : List S_Span) : St := ⟨126, [(48, I ((i12p1 + 1 : Nat) : Int)), (78, I ((i12p1 + 1 : Nat) : Int)), (61, B false), (60, .tup []), (59, .tup []), (58, .tup []), (57, .tup []), (56, B false), (55, B false), (54, I q12p1_0), (53, .lref 1 0 2 0), (52, I x12p1), (12, I x12p1), (51, I x12p1), (50, .ptr (I x12p1)), (49, B true), (0, .sl a.nl (a.l.map S_Span.D) (zsl a.nl 2) none), (1, .sl b.nl (b.l.map S_Span.D) (zsl b.nl 2) none), (2, .sl cuts.nl (cuts.l.map I) (zsl cuts.nl 1) none), (7, .lsl 0 0 va12p1_0.length 2 none), (9, .lref 1 0 2 0), (10, B false), (34, I ((a.l.length : Nat) : Int)), (35, I ((i7 : Nat) : Int)), (46, .sl cuts.nl (cuts.l.map I) (zsl cuts.nl 1) none), (47, I ((cuts.l.length : Nat) : Int)), (48, I ((i12p1 : Nat) : Int))], [(0, ⟨va12p1_0.map S_Span.D, 2, false⟩), (1, ⟨[.agg [I q12p1_0, I q12p1_1]], 2, false⟩)], 2, 0⟩

inductive LR_l_RangesOne_12p1 where
  | x0 (va12p1_0 : List S_Span)
  | x1
instance : Inhabited LR_l_RangesOne_12p1 := ⟨.x0 default⟩
def l_RangesOne_12p1a (q12p1_0 : Int) (q12p1_1 : Int) : List Int → (List S_Span) → LR_l_RangesOne_12p1
  | [], va12p1_0 => .x0 va12p1_0
  | x12p1 :: rest12p1, va12p1_0 =>
    bif decide (x12p1 ≥ q12p1_0) then
      bif decide (x12p1 < q12p1_1) then
        l_RangesOne_12p1a q12p1_0 q12p1_1 rest12p1 (va12p1_0 ++ [(⟨w64 (x12p1 + 1), q12p1_1⟩ : S_Span), (⟨q12p1_0, x12p1⟩ : S_Span), (⟨x12p1, w64 (x12p1 - 1)⟩ : S_Span)])
      else
        l_RangesOne_12p1a q12p1_0 q12p1_1 rest12p1 va12p1_0
    else
      l_RangesOne_12p1a q12p1_0 q12p1_1 rest12p1 va12p1_0
def zI (q12p1_0 : Int) (q12p1_1 : Int) : List Int → LR_l_RangesOne_12p1
  | [] => .x1
  | x12p1 :: rest12p1 =>
    bif decide (x12p1 ≥ q12p1_0) then
      bif decide (x12p1 < q12p1_1) then
        l_RangesOne_12p1a q12p1_0 q12p1_1 rest12p1 [(⟨w64 (x12p1 + 1), q12p1_1⟩ : S_Span), (⟨q12p1_0, x12p1⟩ : S_Span), (⟨x12p1, w64 (x12p1 - 1)⟩ : S_Span)]
      else
        zI q12p1_0 q12p1_1 rest12p1
    else
      zI q12p1_0 q12p1_1 rest12p1
def lr_l_RangesOne_12p1 (a : GS S_Span) (b : GS S_Span) (cuts : GS Int) (i7 : Nat) (q12p1_0 : Int) (q12p1_1 : Int) : LR_l_RangesOne_12p1 → Exit × St
  | .x0 va12p1_0 => ((.exit 2), ⟨126, [(49, B false), (0, .sl a.nl (a.l.map S_Span.D) (zsl a.nl 2) none), (1, .sl b.nl (b.l.map S_Span.D) (zsl b.nl 2) none), (2, .sl cuts.nl (cuts.l.map I) (zsl cuts.nl 1) none), (7, .lsl 0 0 va12p1_0.length 2 none), (9, .lref 1 0 2 0), (10, B false), (34, I ((a.l.length : Nat) : Int)), (35, I ((i7 : Nat) : Int)), (46, .sl cuts.nl (cuts.l.map I) (zsl cuts.nl 1) none), (47, I ((cuts.l.length : Nat) : Int)), (48, I ((cuts.l.length : Nat) : Int))], [(0, ⟨va12p1_0.map S_Span.D, 2, false⟩), (1, ⟨[.agg [I q12p1_0, I q12p1_1]], 2, false⟩)], 2, 0⟩)
  | .x1 => ((.exit 2), ⟨126, [(49, B false), (0, .sl a.nl (a.l.map S_Span.D) (zsl a.nl 2) none), (1, .sl b.nl (b.l.map S_Span.D) (zsl b.nl 2) none), (2, .sl cuts.nl (cuts.l.map I) (zsl cuts.nl 1) none), (7, .sl true [] 0 none), (9, .lref 0 0 2 0), (10, B true), (34, I ((a.l.length : Nat) : Int)), (35, I ((i7 : Nat) : Int)), (46, .sl cuts.nl (cuts.l.map I) (zsl cuts.nl 1) none), (47, I ((cuts.l.length : Nat) : Int)), (48, I ((cuts.l.length : Nat) : Int))], [(0, ⟨[.agg [I q12p1_0, I q12p1_1]], 2, false⟩)], 1, 0⟩)
def iv_l_RangesOne_12p1 (a : GS S_Span) (b : GS S_Span) (cuts : GS Int) (i7 : Nat) (q12p1_0 : Int) (q12p1_1 : Int) : LR_l_RangesOne_12p1 → Prop
  | .x0 va12p1_0 => (va12p1_0.length ≤ 193 * i7 + 3 * cuts.l.length)
  | .x1 => True
theorem lp_l_RangesOne_12p1a (a : GS S_Span) (b : GS S_Span) (cuts : GS Int) (i7 : Nat) (q12p1_0 : Int) (q12p1_1 : Int) : ∀ (rest12p1 : List Int) (i12p1 : Nat) (va12p1_0 : List S_Span) (hd12p1 : cuts.l.drop i12p1 = rest12p1) (hi12p1 : i12p1 ≤ cuts.l.length) (hc64 : cuts.l.length ≤ 64) (hi64 : i7 < 64) (hg12p1_va12p1_0 : va12p1_0.length ≤ 193 * i7 + 3 * i12p1) (hL12p1 : cuts.l.length ≤ 1099511627776), (lim cfg).loop 6 lp6_12 ⟨126, [(0, .sl a.nl (a.l.map S_Span.D) (zsl a.nl 2) none), (1, .sl b.nl (b.l.map S_Span.D) (zsl b.nl 2) none), (2, .sl cuts.nl (cuts.l.map I) (zsl cuts.nl 1) none), (7, .lsl 0 0 va12p1_0.length 2 none), (9, .lref 1 0 2 0), (10, B false), (34, I ((a.l.length : Nat) : Int)), (35, I ((i7 : Nat) : Int)), (46, .sl cuts.nl (cuts.l.map I) (zsl cuts.nl 1) none), (47, I ((cuts.l.length : Nat) : Int)), (48, I ((i12p1 : Nat) : Int))], [(0, ⟨va12p1_0.map S_Span.D, 2, false⟩), (1, ⟨[.agg [I q12p1_0, I q12p1_1]], 2, false⟩)], 2, 0⟩ = some (lr_l_RangesOne_12p1 a b cuts i7 q12p1_0 q12p1_1 (l_RangesOne_12p1a q12p1_0 q12p1_1 rest12p1 va12p1_0)) := by
  intro rest12p1
  induction rest12p1 with
  | nil =>
    intro i12p1 va12p1_0 hd12p1 hi12p1 hc64 hi64 hg12p1_va12p1_0 hL12p1
    unfold l_RangesOne_12p1a
    obtain rfl : i12p1 = cuts.l.length := nil_eq hd12p1 hi12p1
    exact zF [.dec false] (And.intro (lt_no hd12p1) trivial) (by kernel_rfl)
  | cons x12p1 rest12p1 ih =>
    intro i12p1 va12p1_0 hd12p1 hi12p1 hc64 hi64 hg12p1_va12p1_0 hL12p1
    have hlt12p1 := ze hd12p1
    unfold l_RangesOne_12p1a
    have p1 := (el_at (s := cuts) (f := I) (k := 1) hd12p1)
    cases h29 : decide (x12p1 ≥ q12p1_0) with
    | true =>
      have g29 := of_decide_eq_true h29
      cases h30 : decide (x12p1 < q12p1_1) with
      | true =>
        have g30 := of_decide_eq_true h30
        exact po_turn' (ks := [0, 1, 2, 7, 9, 10, 34, 35, 46, 47, 48]) (st' := (sd294 a b cuts i7 i12p1 q12p1_0 q12p1_1 x12p1 va12p1_0)) [.dec true, .el (I x12p1), .dec true, .dec true, .op (some 77) ⟨.lsl 3 0 ((va12p1_0 ++ [(⟨w64 (x12p1 + 1), q12p1_1⟩ : S_Span), (⟨q12p1_0, x12p1⟩ : S_Span), (⟨x12p1, w64 (x12p1 - 1)⟩ : S_Span)]).length) 2 none, [(0, none), (3, some ⟨(va12p1_0 ++ [(⟨w64 (x12p1 + 1), q12p1_1⟩ : S_Span), (⟨q12p1_0, x12p1⟩ : S_Span), (⟨x12p1, w64 (x12p1 - 1)⟩ : S_Span)]).map S_Span.D, 2, false⟩)], [0, 2], 4⟩, .rw 78 (I ((i12p1 + 1 : Nat) : Int))] (And.intro (inc_rw (i := i12p1) (by have := ze hd12p1; omega)) (And.intro (app_moreR (te := ty25) (gO := zr [(0, ⟨va12p1_0.map S_Span.D, 2, false⟩), (1, ⟨[.agg [I q12p1_0, I q12p1_1]], 2, false⟩), (2, ⟨[.agg [I (w64 (x12p1 + 1)), I q12p1_1], .agg [I q12p1_0, I x12p1], .agg [I x12p1, I (w64 (x12p1 - 1))]], 2, false⟩)]) (nxt := 3) (o := 0) (v := va12p1_0) z8 (o2 := 2) (l := [(⟨w64 (x12p1 + 1), q12p1_1⟩ : S_Span), (⟨q12p1_0, x12p1⟩ : S_Span), (⟨x12p1, w64 (x12p1 - 1)⟩ : S_Span)]) (cap := (some 3)) (fz := false) (by kernel_rfl) rfl (by kernel_rfl) rfl (by kernel_rfl) (by decide) ⟨by simp only [ty25, big] <;> (first | assumption | omega | (exact two_bd (by omega) (by omega)) | (exact add_some (by omega)) | (exact add_some' (by omega)) | (exact one_some (by omega)) | (exact one_some' (by omega)) | (exact zC _ (by omega)) | (exact ok_len (by assumption)) | (exact tk_len (by assumption)) | (simp only [zm] at * <;> omega) | (simp only [srtL, GS.some_l, List.length_set, List.length_append, List.length_cons, List.length_nil] at * <;> first | with_reducible assumption | omega) | (simp only [srtL, GS.some_l, List.length_set, List.length_append, List.length_cons, List.length_nil, zm] at * <;> first | with_reducible assumption | omega) | (simp at * <;> omega)), by simp only [big] <;> (first | assumption | omega | (exact two_bd (by omega) (by omega)) | (exact add_some (by omega)) | (exact add_some' (by omega)) | (exact one_some (by omega)) | (exact one_some' (by omega)) | (exact zC _ (by omega)) | (exact ok_len (by assumption)) | (exact tk_len (by assumption)) | (simp only [zm] at * <;> omega) | (simp only [srtL, GS.some_l, List.length_set, List.length_append, List.length_cons, List.length_nil] at * <;> first | with_reducible assumption | omega) | (simp only [srtL, GS.some_l, List.length_set, List.length_append, List.length_cons, List.length_nil, zm] at * <;> first | with_reducible assumption | omega) | (simp at * <;> omega))⟩) (And.intro h30 (And.intro h29 (And.intro p1 (And.intro (lt_at hd12p1) trivial)))))) (by kernel_rfl) (by (simp only [sd294, go_sem, List.length_set, Nat.reduceAdd, Nat.reduceEqDiff, Nat.reduceLT, Nat.reduceLeDiff, bI2, zl.idsL, zl.renL, zl.snapAll, z8.idsL, z8.renL, z8.snapAll]) <;> rfl) (ih (i12p1 + 1) (va12p1_0 ++ [(⟨w64 (x12p1 + 1), q12p1_1⟩ : S_Span), (⟨q12p1_0, x12p1⟩ : S_Span), (⟨x12p1, w64 (x12p1 - 1)⟩ : S_Span)]) (zg hd12p1) (ze hd12p1) (by omega) (by omega) (by simp only [List.length_append, List.length_cons, List.length_nil] at * <;> omega) (by omega)) (by kernel_rfl)
      | false =>
        have g30 := of_decide_eq_false h30
        exact po_turn' (ks := [0, 1, 2, 7, 9, 10, 34, 35, 46, 47, 48]) (st' := (sd295 a b cuts i7 i12p1 q12p1_0 q12p1_1 x12p1 va12p1_0)) [.dec true, .el (I x12p1), .dec true, .dec false, .rw 78 (I ((i12p1 + 1 : Nat) : Int))] (And.intro (inc_rw (i := i12p1) (by have := ze hd12p1; omega)) (And.intro h30 (And.intro h29 (And.intro p1 (And.intro (lt_at hd12p1) trivial))))) (by kernel_rfl) (by (simp only [sd295, go_sem, List.length_set, Nat.reduceAdd, Nat.reduceEqDiff, Nat.reduceLT, Nat.reduceLeDiff, bI2, zl.idsL, zl.renL, zl.snapAll, z8.idsL, z8.renL, z8.snapAll]) <;> rfl) (ih (i12p1 + 1) va12p1_0 (zg hd12p1) (ze hd12p1) (by omega) (by omega) (by omega) (by omega)) (by kernel_rfl)
    | false =>
      have g29 := of_decide_eq_false h29
      exact po_turn' (ks := [0, 1, 2, 7, 9, 10, 34, 35, 46, 47, 48]) (st' := (sd296 a b cuts i7 i12p1 q12p1_0 q12p1_1 x12p1 va12p1_0)) [.dec true, .el (I x12p1), .dec false, .rw 78 (I ((i12p1 + 1 : Nat) : Int))] (And.intro (inc_rw (i := i12p1) (by have := ze hd12p1; omega)) (And.intro h29 (And.intro p1 (And.intro (lt_at hd12p1) trivial)))) (by kernel_rfl) (by (simp only [sd296, go_sem, List.length_set, Nat.reduceAdd, Nat.reduceEqDiff, Nat.reduceLT, Nat.reduceLeDiff, bI2, zl.idsL, zl.renL, zl.snapAll, z8.idsL, z8.renL, z8.snapAll]) <;> rfl) (ih (i12p1 + 1) va12p1_0 (zg hd12p1) (ze hd12p1) (by omega) (by omega) (by omega) (by omega)) (by kernel_rfl)
theorem ivt_l_RangesOne_12p1a (a : GS S_Span) (b : GS S_Span) (cuts : GS Int) (i7 : Nat) (q12p1_0 : Int) (q12p1_1 : Int) : ∀ (rest12p1 : List Int) (i12p1 : Nat) (va12p1_0 : List S_Span) (hd12p1 : cuts.l.drop i12p1 = rest12p1) (hi12p1 : i12p1 ≤ cuts.l.length) (hc64 : cuts.l.length ≤ 64) (hi64 : i7 < 64) (hg12p1_va12p1_0 : va12p1_0.length ≤ 193 * i7 + 3 * i12p1) (hL12p1 : cuts.l.length ≤ 1099511627776), iv_l_RangesOne_12p1 a b cuts i7 q12p1_0 q12p1_1 (l_RangesOne_12p1a q12p1_0 q12p1_1 rest12p1 va12p1_0) := by
  intro rest12p1
  induction rest12p1 with
  | nil =>
    intro i12p1 va12p1_0 hd12p1 hi12p1 hc64 hi64 hg12p1_va12p1_0 hL12p1
    unfold l_RangesOne_12p1a
    obtain rfl : i12p1 = cuts.l.length := nil_eq hd12p1 hi12p1
    exact hg12p1_va12p1_0
  | cons x12p1 rest12p1 ih =>
    intro i12p1 va12p1_0 hd12p1 hi12p1 hc64 hi64 hg12p1_va12p1_0 hL12p1
    have hlt12p1 := ze hd12p1
    unfold l_RangesOne_12p1a
    cases h29 : decide (x12p1 ≥ q12p1_0) with
    | true =>
      have g29 := of_decide_eq_true h29
      cases h30 : decide (x12p1 < q12p1_1) with
      | true =>
        have g30 := of_decide_eq_true h30
        exact ih (i12p1 + 1) (va12p1_0 ++ [(⟨w64 (x12p1 + 1), q12p1_1⟩ : S_Span), (⟨q12p1_0, x12p1⟩ : S_Span), (⟨x12p1, w64 (x12p1 - 1)⟩ : S_Span)]) (zg hd12p1) (ze hd12p1) (by omega) (by omega) (by simp only [List.length_append, List.length_cons, List.length_nil] at * <;> omega) (by omega)
      | false =>
        have g30 := of_decide_eq_false h30
        exact ih (i12p1 + 1) va12p1_0 (zg hd12p1) (ze hd12p1) (by omega) (by omega) (by omega) (by omega)
    | false =>
      have g29 := of_decide_eq_false h29
      exact ih (i12p1 + 1) va12p1_0 (zg hd12p1) (ze hd12p1) (by omega) (by omega) (by omega) (by omega)
theorem lp_l_RangesOne_12p1 (a : GS S_Span) (b : GS S_Span) (cuts : GS Int) (i7 : Nat) (q12p1_0 : Int) (q12p1_1 : Int) : ∀ (rest12p1 : List Int) (i12p1 : Nat) (hd12p1 : cuts.l.drop i12p1 = rest12p1) (hi12p1 : i12p1 ≤ cuts.l.length) (hc64 : cuts.l.length ≤ 64) (hi64 : i7 < 64) (hL12p1 : cuts.l.length ≤ 1099511627776), (lim cfg).loop 6 lp6_12 ⟨126, [(0, .sl a.nl (a.l.map S_Span.D) (zsl a.nl 2) none), (1, .sl b.nl (b.l.map S_Span.D) (zsl b.nl 2) none), (2, .sl cuts.nl (cuts.l.map I) (zsl cuts.nl 1) none), (7, .sl true [] 0 none), (9, .lref 0 0 2 0), (10, B true), (34, I ((a.l.length : Nat) : Int)), (35, I ((i7 : Nat) : Int)), (46, .sl cuts.nl (cuts.l.map I) (zsl cuts.nl 1) none), (47, I ((cuts.l.length : Nat) : Int)), (48, I ((i12p1 : Nat) : Int))], [(0, ⟨[.agg [I q12p1_0, I q12p1_1]], 2, false⟩)], 1, 0⟩ = some (lr_l_RangesOne_12p1 a b cuts i7 q12p1_0 q12p1_1 (zI q12p1_0 q12p1_1 rest12p1)) := by
  intro rest12p1
  induction rest12p1 with
  | nil =>
    intro i12p1 hd12p1 hi12p1 hc64 hi64 hL12p1
    unfold zI
    obtain rfl : i12p1 = cuts.l.length := nil_eq hd12p1 hi12p1
    exact zF [.dec false] (And.intro (lt_no hd12p1) trivial) (by kernel_rfl)
  | cons x12p1 rest12p1 ih =>
    intro i12p1 hd12p1 hi12p1 hc64 hi64 hL12p1
    have hlt12p1 := ze hd12p1
    unfold zI
    have p1 := (el_at (s := cuts) (f := I) (k := 1) hd12p1)
    cases h31 : decide (x12p1 ≥ q12p1_0) with
    | true =>
      have g31 := of_decide_eq_true h31
      cases h32 : decide (x12p1 < q12p1_1) with
      | true =>
        have g32 := of_decide_eq_true h32
        exact po_turn [.dec true, .el (I x12p1), .dec true, .dec true, .rw 78 (I ((i12p1 + 1 : Nat) : Int))] (And.intro (inc_rw (i := i12p1) (by have := ze hd12p1; omega)) (And.intro h32 (And.intro h31 (And.intro p1 (And.intro (lt_at hd12p1) trivial))))) (lp_l_RangesOne_12p1a a b cuts i7 q12p1_0 q12p1_1 _ (i12p1 + 1) [(⟨w64 (x12p1 + 1), q12p1_1⟩ : S_Span), (⟨q12p1_0, x12p1⟩ : S_Span), (⟨x12p1, w64 (x12p1 - 1)⟩ : S_Span)] (zg hd12p1) (ze hd12p1) (by omega) (by omega) (by simp only [List.length_append, List.length_cons, List.length_nil] at * <;> omega) (by omega)) (by kernel_rfl)
      | false =>
        have g32 := of_decide_eq_false h32
        exact po_turn [.dec true, .el (I x12p1), .dec true, .dec false, .rw 78 (I ((i12p1 + 1 : Nat) : Int))] (And.intro (inc_rw (i := i12p1) (by have := ze hd12p1; omega)) (And.intro h32 (And.intro h31 (And.intro p1 (And.intro (lt_at hd12p1) trivial))))) (ih (i12p1 + 1) (zg hd12p1) (ze hd12p1) (by omega) (by omega) (by omega)) (by kernel_rfl)
    | false =>
      have g31 := of_decide_eq_false h31
      exact po_turn [.dec true, .el (I x12p1), .dec false, .rw 78 (I ((i12p1 + 1 : Nat) : Int))] (And.intro (inc_rw (i := i12p1) (by have := ze hd12p1; omega)) (And.intro h31 (And.intro p1 (And.intro (lt_at hd12p1) trivial)))) (ih (i12p1 + 1) (zg hd12p1) (ze hd12p1) (by omega) (by omega) (by omega)) (by kernel_rfl)
theorem ivt_l_RangesOne_12p1 (a : GS S_Span) (b : GS S_Span) (cuts : GS Int) (i7 : Nat) (q12p1_0 : Int) (q12p1_1 : Int) : ∀ (rest12p1 : List Int) (i12p1 : Nat) (hd12p1 : cuts.l.drop i12p1 = rest12p1) (hi12p1 : i12p1 ≤ cuts.l.length) (hc64 : cuts.l.length ≤ 64) (hi64 : i7 < 64) (hL12p1 : cuts.l.length ≤ 1099511627776), iv_l_RangesOne_12p1 a b cuts i7 q12p1_0 q12p1_1 (zI q12p1_0 q12p1_1 rest12p1) := by
  intro rest12p1
  induction rest12p1 with
  | nil =>
    intro i12p1 hd12p1 hi12p1 hc64 hi64 hL12p1
    unfold zI
    obtain rfl : i12p1 = cuts.l.length := nil_eq hd12p1 hi12p1
    exact trivial
  | cons x12p1 rest12p1 ih =>
    intro i12p1 hd12p1 hi12p1 hc64 hi64 hL12p1
    have hlt12p1 := ze hd12p1
    unfold zI
    cases h31 : decide (x12p1 ≥ q12p1_0) with
    | true =>
      have g31 := of_decide_eq_true h31
      cases h32 : decide (x12p1 < q12p1_1) with
      | true =>
        have g32 := of_decide_eq_true h32
        exact ivt_l_RangesOne_12p1a a b cuts i7 q12p1_0 q12p1_1 _ (i12p1 + 1) [(⟨w64 (x12p1 + 1), q12p1_1⟩ : S_Span), (⟨q12p1_0, x12p1⟩ : S_Span), (⟨x12p1, w64 (x12p1 - 1)⟩ : S_Span)] (zg hd12p1) (ze hd12p1) (by omega) (by omega) (by simp only [List.length_append, List.length_cons, List.length_nil] at * <;> omega) (by omega)
      | false =>
        have g32 := of_decide_eq_false h32
        exact ih (i12p1 + 1) (zg hd12p1) (ze hd12p1) (by omega) (by omega) (by omega)
    | false =>
      have g31 := of_decide_eq_false h31
      exact ih (i12p1 + 1) (zg hd12p1) (ze hd12p1) (by omega) (by omega) (by omega)

noncomputable def lp6_7 : Code := subC [1, 1, 1, 1, 0, 1, 0, 0] (bodyC Tryz.f6)

def sd298 (a : GS S_Span) (b : GS S_Span) (cuts : GS Int) (i7 : Nat) (v12_0 : List S_Span) (v12_1 : Bool) : St := ⟨126, [(35, I ((i7 + 1 : Nat) : Int)), (84, I ((i7 + 1 : Nat) : Int)), (7, .lsl 3 0 ((v12_0 ++ [(GS.at a (w64 ((w64 (((a.l.length : Nat) : Int) - 1)) - ((i7 : Nat) : Int))))]).length) 2 none), (83, .lsl 3 0 ((v12_0 ++ [(GS.at a (w64 ((w64 (((a.l.length : Nat) : Int) - 1)) - ((i7 : Nat) : Int))))]).length) 2 none), (82, .lsl 2 0 1 2 (some 1)), (81, .agg [I ((GS.at a (w64 ((w64 (((a.l.length : Nat) : Int) - 1)) - ((i7 : Nat) : Int)))).lo), I ((GS.at a (w64 ((w64 (((a.l.length : Nat) : Int) - 1)) - ((i7 : Nat) : Int)))).hi)]), (80, .lsl 0 0 v12_0.length 2 none), (79, B true), (49, B false), (0, .sl a.nl (a.l.map S_Span.D) (zsl a.nl 2) none), (1, .sl b.nl (b.l.map S_Span.D) (zsl b.nl 2) none), (2, .sl cuts.nl (cuts.l.map I) (zsl cuts.nl 1) none), (7, .lsl 0 0 v12_0.length 2 none), (9, .lref 1 0 2 0), (10, B v12_1), (34, I ((a.l.length : Nat) : Int)), (35, I ((i7 : Nat) : Int)), (46, .sl cuts.nl (cuts.l.map I) (zsl cuts.nl 1) none), (47, I ((cuts.l.length : Nat) : Int)), (48, I ((cuts.l.length : Nat) : Int))], [(1, ⟨[.agg [I ((GS.at a (w64 ((w64 (((a.l.length : Nat) : Int) - 1)) - ((i7 : Nat) : Int)))).lo), I ((GS.at a (w64 ((w64 (((a.l.length : Nat) : Int) - 1)) - ((i7 : Nat) : Int)))).hi)]], 2, false⟩), (2, ⟨[.agg [I ((GS.at a (w64 ((w64 (((a.l.length : Nat) : Int) - 1)) - ((i7 : Nat) : Int)))).lo), I ((GS.at a (w64 ((w64 (((a.l.length : Nat) : Int) - 1)) - ((i7 : Nat) : Int)))).hi)]], 2, false⟩), (3, ⟨(v12_0 ++ [(GS.at a (w64 ((w64 (((a.l.length : Nat) : Int) - 1)) - ((i7 : Nat) : Int))))]).map S_Span.D, 2, false⟩)], 4, 0⟩

def sd288 (a : GS S_Span) (b : GS S_Span) (cuts : GS Int) (i7 : Nat) (va7_0 : List S_Span) : St := ⟨126, [(0, .sl a.nl (a.l.map S_Span.D) (zsl a.nl 2) none), (1, .sl b.nl (b.l.map S_Span.D) (zsl b.nl 2) none), (2, .sl cuts.nl (cuts.l.map I) (zsl cuts.nl 1) none), (7, .lsl 0 0 va7_0.length 2 none), (9, .lref 1 0 2 0), (10, B true), (34, I ((a.l.length : Nat) : Int)), (35, I ((i7 : Nat) : Int)), (46, .sl cuts.nl (cuts.l.map I) (zsl cuts.nl 1) none), (47, I ((cuts.l.length : Nat) : Int)), (48, I 0)], [(0, ⟨va7_0.map S_Span.D, 2, false⟩), (1, ⟨[.agg [I ((GS.at a (w64 ((w64 (((a.l.length : Nat) : Int) - 1)) - ((i7 : Nat) : Int)))).lo), I ((GS.at a (w64 ((w64 (((a.l.length : Nat) : Int) - 1)) - ((i7 : Nat) : Int)))).hi)]], 2, false⟩)], 2, 0⟩

def sd293 (a : GS S_Span) (b : GS S_Span) (cuts : GS Int) (i7 : Nat) (v12_0 : List S_Span) (v12_1 : Bool) : St := ⟨126, [(49, B false), (0, .sl a.nl (a.l.map S_Span.D) (zsl a.nl 2) none), (1, .sl b.nl (b.l.map S_Span.D) (zsl b.nl 2) none), (2, .sl cuts.nl (cuts.l.map I) (zsl cuts.nl 1) none), (7, .lsl 0 0 v12_0.length 2 none), (9, .lref 1 0 2 0), (10, B v12_1), (34, I ((a.l.length : Nat) : Int)), (35, I ((i7 : Nat) : Int)), (46, .sl cuts.nl (cuts.l.map I) (zsl cuts.nl 1) none), (47, I ((cuts.l.length : Nat) : Int)), (48, I ((cuts.l.length : Nat) : Int))], [(0, ⟨v12_0.map S_Span.D, 2, false⟩), (1, ⟨[.agg [I ((GS.at a (w64 ((w64 (((a.l.length : Nat) : Int) - 1)) - ((i7 : Nat) : Int)))).lo), I ((GS.at a (w64 ((w64 (((a.l.length : Nat) : Int) - 1)) - ((i7 : Nat) : Int)))).hi)]], 2, false⟩)], 2, 0⟩

def sd287 (a : GS S_Span) (b : GS S_Span) (cuts : GS Int) (i7 : Nat) (va7_0 : List S_Span) : St := ⟨126, [(48, I 0), (47, I ((cuts.l.length : Nat) : Int)), (46, .sl cuts.nl (cuts.l.map I) (zsl cuts.nl 1) none), (10, B true), (9, .lref 1 0 2 0), (45, .agg [I ((GS.at a (w64 ((w64 (((a.l.length : Nat) : Int) - 1)) - ((i7 : Nat) : Int)))).lo), I ((GS.at a (w64 ((w64 (((a.l.length : Nat) : Int) - 1)) - ((i7 : Nat) : Int)))).hi)]), (44, .ptr (.agg [I ((GS.at a (w64 ((w64 (((a.l.length : Nat) : Int) - 1)) - ((i7 : Nat) : Int)))).lo), I ((GS.at a (w64 ((w64 (((a.l.length : Nat) : Int) - 1)) - ((i7 : Nat) : Int)))).hi)])), (43, I (w64 ((w64 (((a.l.length : Nat) : Int) - 1)) - ((i7 : Nat) : Int)))), (42, I ((i7 : Nat) : Int)), (41, I (w64 (((a.l.length : Nat) : Int) - 1))), (40, I ((a.l.length : Nat) : Int)), (39, .sl a.nl (a.l.map S_Span.D) (zsl a.nl 2) none), (38, .sl a.nl (a.l.map S_Span.D) (zsl a.nl 2) none), (8, I ((i7 : Nat) : Int)), (37, I ((i7 : Nat) : Int)), (36, B true), (0, .sl a.nl (a.l.map S_Span.D) (zsl a.nl 2) none), (1, .sl b.nl (b.l.map S_Span.D) (zsl b.nl 2) none), (2, .sl cuts.nl (cuts.l.map I) (zsl cuts.nl 1) none), (7, .lsl 0 0 va7_0.length 2 none), (34, I ((a.l.length : Nat) : Int)), (35, I ((i7 : Nat) : Int))], [(0, ⟨va7_0.map S_Span.D, 2, false⟩), (1, ⟨[.agg [I ((GS.at a (w64 ((w64 (((a.l.length : Nat) : Int) - 1)) - ((i7 : Nat) : Int)))).lo), I ((GS.at a (w64 ((w64 (((a.l.length : Nat) : Int) - 1)) - ((i7 : Nat) : Int)))).hi)]], 2, false⟩)], 2, 0⟩

def sd299 (a : GS S_Span) (b : GS S_Span) (cuts : GS Int) (i7 : Nat) (v12_0 : List S_Span) (v12_1 : Bool) : St := ⟨126, [(35, I ((i7 + 1 : Nat) : Int)), (84, I ((i7 + 1 : Nat) : Int)), (79, B false), (49, B false), (0, .sl a.nl (a.l.map S_Span.D) (zsl a.nl 2) none), (1, .sl b.nl (b.l.map S_Span.D) (zsl b.nl 2) none), (2, .sl cuts.nl (cuts.l.map I) (zsl cuts.nl 1) none), (7, .lsl 0 0 v12_0.length 2 none), (9, .lref 1 0 2 0), (10, B v12_1), (34, I ((a.l.length : Nat) : Int)), (35, I ((i7 : Nat) : Int)), (46, .sl cuts.nl (cuts.l.map I) (zsl cuts.nl 1) none), (47, I ((cuts.l.length : Nat) : Int)), (48, I ((cuts.l.length : Nat) : Int))], [(0, ⟨v12_0.map S_Span.D, 2, false⟩), (1, ⟨[.agg [I ((GS.at a (w64 ((w64 (((a.l.length : Nat) : Int) - 1)) - ((i7 : Nat) : Int)))).lo), I ((GS.at a (w64 ((w64 (((a.l.length : Nat) : Int) - 1)) - ((i7 : Nat) : Int)))).hi)]], 2, false⟩)], 2, 0⟩

def sd300 (a : GS S_Span) (b : GS S_Span) (cuts : GS Int) (i7 : Nat) (va12p1_0 : List S_Span) : St := ⟨126, [(35, I ((i7 + 1 : Nat) : Int)), (84, I ((i7 + 1 : Nat) : Int)), (79, B false), (49, B false), (0, .sl a.nl (a.l.map S_Span.D) (zsl a.nl 2) none), (1, .sl b.nl (b.l.map S_Span.D) (zsl b.nl 2) none), (2, .sl cuts.nl (cuts.l.map I) (zsl cuts.nl 1) none), (7, .lsl 0 0 va12p1_0.length 2 none), (9, .lref 1 0 2 0), (10, B false), (34, I ((a.l.length : Nat) : Int)), (35, I ((i7 : Nat) : Int)), (46, .sl cuts.nl (cuts.l.map I) (zsl cuts.nl 1) none), (47, I ((cuts.l.length : Nat) : Int)), (48, I ((cuts.l.length : Nat) : Int))], [(0, ⟨va12p1_0.map S_Span.D, 2, false⟩), (1, ⟨[.agg [I ((GS.at a (w64 ((w64 (((a.l.length : Nat) : Int) - 1)) - ((i7 : Nat) : Int)))).lo), I ((GS.at a (w64 ((w64 (((a.l.length : Nat) : Int) - 1)) - ((i7 : Nat) : Int)))).hi)]], 2, false⟩)], 2, 0⟩

def sd297 (a : GS S_Span) (b : GS S_Span) (cuts : GS Int) (i7 : Nat) (va12p1_0 : List S_Span) : St := ⟨126, [(49, B false), (0, .sl a.nl (a.l.map S_Span.D) (zsl a.nl 2) none), (1, .sl b.nl (b.l.map S_Span.D) (zsl b.nl 2) none), (2, .sl cuts.nl (cuts.l.map I) (zsl cuts.nl 1) none), (7, .lsl 0 0 va12p1_0.length 2 none), (9, .lref 1 0 2 0), (10, B false), (34, I ((a.l.length : Nat) : Int)), (35, I ((i7 : Nat) : Int)), (46, .sl cuts.nl (cuts.l.map I) (zsl cuts.nl 1) none), (47, I ((cuts.l.length : Nat) : Int)), (48, I ((cuts.l.length : Nat) : Int))], [(0, ⟨va12p1_0.map S_Span.D, 2, false⟩), (1, ⟨[.agg [I ((GS.at a (w64 ((w64 (((a.l.length : Nat) : Int) - 1)) - ((i7 : Nat) : Int)))).lo), I ((GS.at a (w64 ((w64 (((a.l.length : Nat) : Int) - 1)) - ((i7 : Nat) : Int)))).hi)]], 2, false⟩)], 2, 0⟩

def sd283 (a : GS S_Span) (b : GS S_Span) (cuts : GS Int) (i7 : Nat) : St := ⟨126, [(49, B false), (0, .sl a.nl (a.l.map S_Span.D) (zsl a.nl 2) none), (1, .sl b.nl (b.l.map S_Span.D) (zsl b.nl 2) none), (2, .sl cuts.nl (cuts.l.map I) (zsl cuts.nl 1) none), (7, .sl true [] 0 none), (9, .lref 0 0 2 0), (10, B true), (34, I ((a.l.length : Nat) : Int)), (35, I ((i7 : Nat) : Int)), (46, .sl cuts.nl (cuts.l.map I) (zsl cuts.nl 1) none), (47, I ((cuts.l.length : Nat) : Int)), (48, I ((cuts.l.length : Nat) : Int))], [(0, ⟨[.agg [I ((GS.at a (w64 ((w64 (((a.l.length : Nat) : Int) - 1)) - ((i7 : Nat) : Int)))).lo), I ((GS.at a (w64 ((w64 (((a.l.length : Nat) : Int) - 1)) - ((i7 : Nat) : Int)))).hi)]], 2, false⟩)], 1, 0⟩

inductive LR_l_RangesOne_7 where
  | x0 (va7_0 : List S_Span)
  | x1
instance : Inhabited LR_l_RangesOne_7 := ⟨.x0 default⟩
def l_RangesOne_7a (a : GS S_Span) (cuts : GS Int) : List S_Span → Nat → (List S_Span) → LR_l_RangesOne_7
  | [], i7, va7_0 => .x0 va7_0
  | x7 :: rest7, i7, va7_0 =>
    match l_RangesOne_12 ((GS.at a (w64 ((w64 (((a.l.length : Nat) : Int) - 1)) - ((i7 : Nat) : Int)))).lo) ((GS.at a (w64 ((w64 (((a.l.length : Nat) : Int) - 1)) - ((i7 : Nat) : Int)))).hi) cuts.l va7_0 true with
    | .x0 v12_0 v12_1 =>
      bif v12_1 then
        l_RangesOne_7a a cuts rest7 (i7 + 1) (v12_0 ++ [(GS.at a (w64 ((w64 (((a.l.length : Nat) : Int) - 1)) - ((i7 : Nat) : Int))))])
      else
        l_RangesOne_7a a cuts rest7 (i7 + 1) v12_0
def l_RangesOne_7 (a : GS S_Span) (cuts : GS Int) : List S_Span → Nat → LR_l_RangesOne_7
  | [], i7 => .x1
  | x7 :: rest7, i7 =>
    match zI ((GS.at a (w64 ((w64 (((a.l.length : Nat) : Int) - 1)) - ((i7 : Nat) : Int)))).lo) ((GS.at a (w64 ((w64 (((a.l.length : Nat) : Int) - 1)) - ((i7 : Nat) : Int)))).hi) cuts.l with
    | .x0 va12p1_0 =>
      l_RangesOne_7a a cuts rest7 (i7 + 1) va12p1_0
    | .x1 =>
      l_RangesOne_7a a cuts rest7 (i7 + 1) [(GS.at a (w64 ((w64 (((a.l.length : Nat) : Int) - 1)) - ((i7 : Nat) : Int))))]
def lr_l_RangesOne_7 (a : GS S_Span) (b : GS S_Span) (cuts : GS Int) : LR_l_RangesOne_7 → Exit × St
  | .x0 va7_0 => ((.exit 0), ⟨126, [(36, B false), (0, .sl a.nl (a.l.map S_Span.D) (zsl a.nl 2) none), (1, .sl b.nl (b.l.map S_Span.D) (zsl b.nl 2) none), (2, .sl cuts.nl (cuts.l.map I) (zsl cuts.nl 1) none), (7, .lsl 0 0 va7_0.length 2 none), (34, I ((a.l.length : Nat) : Int)), (35, I ((a.l.length : Nat) : Int))], [(0, ⟨va7_0.map S_Span.D, 2, false⟩)], 1, 0⟩)
  | .x1 => ((.exit 0), ⟨126, [(36, B false), (0, .sl a.nl (a.l.map S_Span.D) (zsl a.nl 2) none), (1, .sl b.nl (b.l.map S_Span.D) (zsl b.nl 2) none), (2, .sl cuts.nl (cuts.l.map I) (zsl cuts.nl 1) none), (7, .sl true [] 0 none), (34, I ((a.l.length : Nat) : Int)), (35, I ((a.l.length : Nat) : Int))], [], 0, 0⟩)
def iv_l_RangesOne_7 (a : GS S_Span) (b : GS S_Span) (cuts : GS Int) : LR_l_RangesOne_7 → Prop
  | .x0 va7_0 => (va7_0.length ≤ 193 * a.l.length)
  | .x1 => True
theorem lp_l_RangesOne_7a (a : GS S_Span) (b : GS S_Span) (cuts : GS Int) : ∀ (rest7 : List S_Span) (i7 : Nat) (va7_0 : List S_Span) (hd7 : a.l.drop i7 = rest7) (hi7 : i7 ≤ a.l.length) (ha64 : a.l.length ≤ 64) (hc64 : cuts.l.length ≤ 64) (hg7_va7_0 : va7_0.length ≤ 193 * i7) (hL7 : a.l.length ≤ 1099511627776), (lim cfg).loop 6 lp6_7 ⟨126, [(0, .sl a.nl (a.l.map S_Span.D) (zsl a.nl 2) none), (1, .sl b.nl (b.l.map S_Span.D) (zsl b.nl 2) none), (2, .sl cuts.nl (cuts.l.map I) (zsl cuts.nl 1) none), (7, .lsl 0 0 va7_0.length 2 none), (34, I ((a.l.length : Nat) : Int)), (35, I ((i7 : Nat) : Int))], [(0, ⟨va7_0.map S_Span.D, 2, false⟩)], 1, 0⟩ = some (lr_l_RangesOne_7 a b cuts (l_RangesOne_7a a cuts rest7 i7 va7_0)) := by
  intro rest7
  induction rest7 with
  | nil =>
    intro i7 va7_0 hd7 hi7 ha64 hc64 hg7_va7_0 hL7
    unfold l_RangesOne_7a
    obtain rfl : i7 = a.l.length := nil_eq hd7 hi7
    exact zF [.dec false] (And.intro (lt_no hd7) trivial) (by kernel_rfl)
  | cons x7 rest7 ih =>
    intro i7 va7_0 hd7 hi7 ha64 hc64 hg7_va7_0 hL7
    have hlt7 := ze hd7
    unfold l_RangesOne_7a
    cases h23 : l_RangesOne_12 ((GS.at a (w64 ((w64 (((a.l.length : Nat) : Int) - 1)) - ((i7 : Nat) : Int)))).lo) ((GS.at a (w64 ((w64 (((a.l.length : Nat) : Int) - 1)) - ((i7 : Nat) : Int)))).hi) cuts.l va7_0 true with
    | x0 v12_0 v12_1 =>
      try dsimp only
      have hv_h23 := ivt_l_RangesOne_12 a b cuts i7 ((GS.at a (w64 ((w64 (((a.l.length : Nat) : Int) - 1)) - ((i7 : Nat) : Int)))).lo) ((GS.at a (w64 ((w64 (((a.l.length : Nat) : Int) - 1)) - ((i7 : Nat) : Int)))).hi) cuts.l 0 va7_0 true (List.drop_zero) (Nat.zero_le _) (by omega) (by omega) (by omega) (by omega)
      rw [h23] at hv_h23
      have hv_h23_0 := hv_h23
      try dsimp only [iv_l_RangesOne_12] at hv_h23_0
      rcases Bool.eq_false_or_eq_true v12_1 with h24 | h24
      · rw [cond_t h24]
        exact po_turn' (ks := [0, 1, 2, 7, 34, 35]) (st' := (sd298 a b cuts i7 v12_0 v12_1)) [.dec true, .rw 40 (I ((a.l.length : Nat) : Int)), .el (.agg [I ((GS.at a (w64 ((w64 (((a.l.length : Nat) : Int) - 1)) - ((i7 : Nat) : Int)))).lo), I ((GS.at a (w64 ((w64 (((a.l.length : Nat) : Int) - 1)) - ((i7 : Nat) : Int)))).hi)]), .rw 47 (I ((cuts.l.length : Nat) : Int)), .gloop (sd288 a b cuts i7 va7_0) (.exit 2) (sd293 a b cuts i7 v12_0 v12_1), .rw 79 (B true), .op (some 83) ⟨.lsl 3 0 ((v12_0 ++ [(GS.at a (w64 ((w64 (((a.l.length : Nat) : Int) - 1)) - ((i7 : Nat) : Int))))]).length) 2 none, [(0, none), (3, some ⟨(v12_0 ++ [(GS.at a (w64 ((w64 (((a.l.length : Nat) : Int) - 1)) - ((i7 : Nat) : Int))))]).map S_Span.D, 2, false⟩)], [0, 2], 4⟩, .rw 84 (I ((i7 + 1 : Nat) : Int))] (And.intro (inc_rw (i := i7) (by have := ze hd7; omega)) (And.intro (app_row (f := S_Span.D) (te := ty25) (gO := zr [(0, ⟨v12_0.map S_Span.D, 2, false⟩), (1, ⟨[.agg [I ((GS.at a (w64 ((w64 (((a.l.length : Nat) : Int) - 1)) - ((i7 : Nat) : Int)))).lo), I ((GS.at a (w64 ((w64 (((a.l.length : Nat) : Int) - 1)) - ((i7 : Nat) : Int)))).hi)]], 2, false⟩), (2, ⟨[.agg [I ((GS.at a (w64 ((w64 (((a.l.length : Nat) : Int) - 1)) - ((i7 : Nat) : Int)))).lo), I ((GS.at a (w64 ((w64 (((a.l.length : Nat) : Int) - 1)) - ((i7 : Nat) : Int)))).hi)]], 2, false⟩)]) (nxt := 3) (o := 0) (o2 := 2) (fz := false) z8 v12_0 (GS.at a (w64 ((w64 (((a.l.length : Nat) : Int) - 1)) - ((i7 : Nat) : Int)))) (by kernel_rfl) (by kernel_rfl) rfl (by kernel_rfl) (by decide) ⟨by simp only [ty25, big] <;> (first | assumption | omega | (exact two_bd (by omega) (by omega)) | (exact add_some (by omega)) | (exact add_some' (by omega)) | (exact one_some (by omega)) | (exact one_some' (by omega)) | (exact zC _ (by omega)) | (exact ok_len (by assumption)) | (exact tk_len (by assumption)) | (simp only [zm] at * <;> omega) | (simp only [srtL, GS.some_l, List.length_set, List.length_append, List.length_cons, List.length_nil] at * <;> first | with_reducible assumption | omega) | (simp only [srtL, GS.some_l, List.length_set, List.length_append, List.length_cons, List.length_nil, zm] at * <;> first | with_reducible assumption | omega) | (simp at * <;> omega)), by simp only [big] <;> (first | assumption | omega | (exact two_bd (by omega) (by omega)) | (exact add_some (by omega)) | (exact add_some' (by omega)) | (exact one_some (by omega)) | (exact one_some' (by omega)) | (exact zC _ (by omega)) | (exact ok_len (by assumption)) | (exact tk_len (by assumption)) | (simp only [zm] at * <;> omega) | (simp only [srtL, GS.some_l, List.length_set, List.length_append, List.length_cons, List.length_nil] at * <;> first | with_reducible assumption | omega) | (simp only [srtL, GS.some_l, List.length_set, List.length_append, List.length_cons, List.length_nil, zm] at * <;> first | with_reducible assumption | omega) | (simp at * <;> omega))⟩) (And.intro (congrArg B h24) (And.intro (po_lr (q := lr_l_RangesOne_12 a b cuts i7 ((GS.at a (w64 ((w64 (((a.l.length : Nat) : Int) - 1)) - ((i7 : Nat) : Int)))).lo) ((GS.at a (w64 ((w64 (((a.l.length : Nat) : Int) - 1)) - ((i7 : Nat) : Int)))).hi)) (lp_l_RangesOne_12 a b cuts i7 ((GS.at a (w64 ((w64 (((a.l.length : Nat) : Int) - 1)) - ((i7 : Nat) : Int)))).lo) ((GS.at a (w64 ((w64 (((a.l.length : Nat) : Int) - 1)) - ((i7 : Nat) : Int)))).hi) cuts.l 0 va7_0 true (List.drop_zero) (Nat.zero_le _) (by omega) (by omega) (by omega) (by omega)) h23) (And.intro (gc_of (C := cfg) (f := 6) (a := lp6_12) (ks := [0, 1, 2, 7, 9, 10, 34, 35, 46, 47, 48]) (st := (sd287 a b cuts i7 va7_0)) (st1 := (sd288 a b cuts i7 va7_0)) (by kernel_rfl) (by (simp only [sd287, sd288, go_sem, List.length_set, Nat.reduceAdd, Nat.reduceEqDiff, Nat.reduceLT, Nat.reduceLeDiff, bI2, zl.idsL, zl.renL, zl.snapAll, z8.idsL, z8.renL, z8.snapAll]) <;> rfl)) (And.intro (zh I cuts) (And.intro (el_in (s := a) (f := S_Span.D) (k := 2) (i := w64 ((w64 (((a.l.length : Nat) : Int) - 1)) - ((i7 : Nat) : Int))) (by simp only [List.length_append, List.length_cons, List.length_nil, zm] at * <;> omega) (by simp only [List.length_append, List.length_cons, List.length_nil, zm] at * <;> omega)) (And.intro (zh S_Span.D a) (And.intro (lt_at hd7) trivial))))))))) (by kernel_rfl) (by (simp only [sd298, go_sem, List.length_set, Nat.reduceAdd, Nat.reduceEqDiff, Nat.reduceLT, Nat.reduceLeDiff, bI2, zl.idsL, zl.renL, zl.snapAll, z8.idsL, z8.renL, z8.snapAll]) <;> rfl) (ih (i7 + 1) (v12_0 ++ [(GS.at a (w64 ((w64 (((a.l.length : Nat) : Int) - 1)) - ((i7 : Nat) : Int))))]) (zg hd7) (ze hd7) (by omega) (by omega) (by simp only [List.length_append, List.length_cons, List.length_nil] at * <;> omega) (by omega)) (by kernel_rfl)
      · rw [cond_f h24]
        exact po_turn' (ks := [0, 1, 2, 7, 34, 35]) (st' := (sd299 a b cuts i7 v12_0 v12_1)) [.dec true, .rw 40 (I ((a.l.length : Nat) : Int)), .el (.agg [I ((GS.at a (w64 ((w64 (((a.l.length : Nat) : Int) - 1)) - ((i7 : Nat) : Int)))).lo), I ((GS.at a (w64 ((w64 (((a.l.length : Nat) : Int) - 1)) - ((i7 : Nat) : Int)))).hi)]), .rw 47 (I ((cuts.l.length : Nat) : Int)), .gloop (sd288 a b cuts i7 va7_0) (.exit 2) (sd293 a b cuts i7 v12_0 v12_1), .rw 79 (B false), .rw 84 (I ((i7 + 1 : Nat) : Int))] (And.intro (inc_rw (i := i7) (by have := ze hd7; omega)) (And.intro (congrArg B h24) (And.intro (po_lr (q := lr_l_RangesOne_12 a b cuts i7 ((GS.at a (w64 ((w64 (((a.l.length : Nat) : Int) - 1)) - ((i7 : Nat) : Int)))).lo) ((GS.at a (w64 ((w64 (((a.l.length : Nat) : Int) - 1)) - ((i7 : Nat) : Int)))).hi)) (lp_l_RangesOne_12 a b cuts i7 ((GS.at a (w64 ((w64 (((a.l.length : Nat) : Int) - 1)) - ((i7 : Nat) : Int)))).lo) ((GS.at a (w64 ((w64 (((a.l.length : Nat) : Int) - 1)) - ((i7 : Nat) : Int)))).hi) cuts.l 0 va7_0 true (List.drop_zero) (Nat.zero_le _) (by omega) (by omega) (by omega) (by omega)) h23) (And.intro (gc_of (C := cfg) (f := 6) (a := lp6_12) (ks := [0, 1, 2, 7, 9, 10, 34, 35, 46, 47, 48]) (st := (sd287 a b cuts i7 va7_0)) (st1 := (sd288 a b cuts i7 va7_0)) (by kernel_rfl) (by (simp only [sd287, sd288, go_sem, List.length_set, Nat.reduceAdd, Nat.reduceEqDiff, Nat.reduceLT, Nat.reduceLeDiff, bI2, zl.idsL, zl.renL, zl.snapAll, z8.idsL, z8.renL, z8.snapAll]) <;> rfl)) (And.intro (zh I cuts) (And.intro (el_in (s := a) (f := S_Span.D) (k := 2) (i := w64 ((w64 (((a.l.length : Nat) : Int) - 1)) - ((i7 : Nat) : Int))) (by simp only [List.length_append, List.length_cons, List.length_nil, zm] at * <;> omega) (by simp only [List.length_append, List.length_cons, List.length_nil, zm] at * <;> omega)) (And.intro (zh S_Span.D a) (And.intro (lt_at hd7) trivial)))))))) (by kernel_rfl) (by (simp only [sd299, go_sem, List.length_set, Nat.reduceAdd, Nat.reduceEqDiff, Nat.reduceLT, Nat.reduceLeDiff, bI2, zl.idsL, zl.renL, zl.snapAll, z8.idsL, z8.renL, z8.snapAll]) <;> rfl) (ih (i7 + 1) v12_0 (zg hd7) (ze hd7) (by omega) (by omega) (by omega) (by omega)) (by kernel_rfl)
theorem ivt_l_RangesOne_7a (a : GS S_Span) (b : GS S_Span) (cuts : GS Int) : ∀ (rest7 : List S_Span) (i7 : Nat) (va7_0 : List S_Span) (hd7 : a.l.drop i7 = rest7) (hi7 : i7 ≤ a.l.length) (ha64 : a.l.length ≤ 64) (hc64 : cuts.l.length ≤ 64) (hg7_va7_0 : va7_0.length ≤ 193 * i7) (hL7 : a.l.length ≤ 1099511627776), iv_l_RangesOne_7 a b cuts (l_RangesOne_7a a cuts rest7 i7 va7_0) := by
  intro rest7
  induction rest7 with
  | nil =>
    intro i7 va7_0 hd7 hi7 ha64 hc64 hg7_va7_0 hL7
    unfold l_RangesOne_7a
    obtain rfl : i7 = a.l.length := nil_eq hd7 hi7
    exact hg7_va7_0
  | cons x7 rest7 ih =>
    intro i7 va7_0 hd7 hi7 ha64 hc64 hg7_va7_0 hL7
    have hlt7 := ze hd7
    unfold l_RangesOne_7a
    cases h23 : l_RangesOne_12 ((GS.at a (w64 ((w64 (((a.l.length : Nat) : Int) - 1)) - ((i7 : Nat) : Int)))).lo) ((GS.at a (w64 ((w64 (((a.l.length : Nat) : Int) - 1)) - ((i7 : Nat) : Int)))).hi) cuts.l va7_0 true with
    | x0 v12_0 v12_1 =>
      try dsimp only
      have hv_h23 := ivt_l_RangesOne_12 a b cuts i7 ((GS.at a (w64 ((w64 (((a.l.length : Nat) : Int) - 1)) - ((i7 : Nat) : Int)))).lo) ((GS.at a (w64 ((w64 (((a.l.length : Nat) : Int) - 1)) - ((i7 : Nat) : Int)))).hi) cuts.l 0 va7_0 true (List.drop_zero) (Nat.zero_le _) (by omega) (by omega) (by omega) (by omega)
      rw [h23] at hv_h23
      have hv_h23_0 := hv_h23
      try dsimp only [iv_l_RangesOne_12] at hv_h23_0
      rcases Bool.eq_false_or_eq_true v12_1 with h24 | h24
      · rw [cond_t h24]
        exact ih (i7 + 1) (v12_0 ++ [(GS.at a (w64 ((w64 (((a.l.length : Nat) : Int) - 1)) - ((i7 : Nat) : Int))))]) (zg hd7) (ze hd7) (by omega) (by omega) (by simp only [List.length_append, List.length_cons, List.length_nil] at * <;> omega) (by omega)
      · rw [cond_f h24]
        exact ih (i7 + 1) v12_0 (zg hd7) (ze hd7) (by omega) (by omega) (by omega) (by omega)
theorem lp_l_RangesOne_7 (a : GS S_Span) (b : GS S_Span) (cuts : GS Int) : ∀ (rest7 : List S_Span) (i7 : Nat) (hd7 : a.l.drop i7 = rest7) (hi7 : i7 ≤ a.l.length) (ha64 : a.l.length ≤ 64) (hc64 : cuts.l.length ≤ 64) (hL7 : a.l.length ≤ 1099511627776), (lim cfg).loop 6 lp6_7 ⟨126, [(0, .sl a.nl (a.l.map S_Span.D) (zsl a.nl 2) none), (1, .sl b.nl (b.l.map S_Span.D) (zsl b.nl 2) none), (2, .sl cuts.nl (cuts.l.map I) (zsl cuts.nl 1) none), (7, .sl true [] 0 none), (34, I ((a.l.length : Nat) : Int)), (35, I ((i7 : Nat) : Int))], [], 0, 0⟩ = some (lr_l_RangesOne_7 a b cuts (l_RangesOne_7 a cuts rest7 i7)) := by
  intro rest7
  induction rest7 with
  | nil =>
    intro i7 hd7 hi7 ha64 hc64 hL7
    unfold l_RangesOne_7
    obtain rfl : i7 = a.l.length := nil_eq hd7 hi7
    exact zF [.dec false] (And.intro (lt_no hd7) trivial) (by kernel_rfl)
  | cons x7 rest7 ih =>
    intro i7 hd7 hi7 ha64 hc64 hL7
    have hlt7 := ze hd7
    unfold l_RangesOne_7
    dsimp only
    cases h33 : zI ((GS.at a (w64 ((w64 (((a.l.length : Nat) : Int) - 1)) - ((i7 : Nat) : Int)))).lo) ((GS.at a (w64 ((w64 (((a.l.length : Nat) : Int) - 1)) - ((i7 : Nat) : Int)))).hi) cuts.l with
    | x0 va12p1_0 =>
      try dsimp only
      have hv_h33 := ivt_l_RangesOne_12p1 a b cuts i7 ((GS.at a (w64 ((w64 (((a.l.length : Nat) : Int) - 1)) - ((i7 : Nat) : Int)))).lo) ((GS.at a (w64 ((w64 (((a.l.length : Nat) : Int) - 1)) - ((i7 : Nat) : Int)))).hi) cuts.l 0 (List.drop_zero) (Nat.zero_le _) (by omega) (by omega) (by omega)
      rw [h33] at hv_h33
      have hv_h33_0 := hv_h33
      try dsimp only [iv_l_RangesOne_12p1] at hv_h33_0
      exact po_turn' (ks := [0, 1, 2, 7, 34, 35]) (st' := (sd300 a b cuts i7 va12p1_0)) [.dec true, .rw 40 (I ((a.l.length : Nat) : Int)), .el (.agg [I ((GS.at a (w64 ((w64 (((a.l.length : Nat) : Int) - 1)) - ((i7 : Nat) : Int)))).lo), I ((GS.at a (w64 ((w64 (((a.l.length : Nat) : Int) - 1)) - ((i7 : Nat) : Int)))).hi)]), .rw 47 (I ((cuts.l.length : Nat) : Int)), .loop (.exit 2) (sd297 a b cuts i7 va12p1_0), .rw 84 (I ((i7 + 1 : Nat) : Int))] (And.intro (inc_rw (i := i7) (by have := ze hd7; omega)) (And.intro (po_lr (q := lr_l_RangesOne_12p1 a b cuts i7 ((GS.at a (w64 ((w64 (((a.l.length : Nat) : Int) - 1)) - ((i7 : Nat) : Int)))).lo) ((GS.at a (w64 ((w64 (((a.l.length : Nat) : Int) - 1)) - ((i7 : Nat) : Int)))).hi)) (lp_l_RangesOne_12p1 a b cuts i7 ((GS.at a (w64 ((w64 (((a.l.length : Nat) : Int) - 1)) - ((i7 : Nat) : Int)))).lo) ((GS.at a (w64 ((w64 (((a.l.length : Nat) : Int) - 1)) - ((i7 : Nat) : Int)))).hi) cuts.l 0 (List.drop_zero) (Nat.zero_le _) (by omega) (by omega) (by omega)) h33) (And.intro (zh I cuts) (And.intro (el_in (s := a) (f := S_Span.D) (k := 2) (i := w64 ((w64 (((a.l.length : Nat) : Int) - 1)) - ((i7 : Nat) : Int))) (by simp only [List.length_append, List.length_cons, List.length_nil, zm] at * <;> omega) (by simp only [List.length_append, List.length_cons, List.length_nil, zm] at * <;> omega)) (And.intro (zh S_Span.D a) (And.intro (lt_at hd7) trivial)))))) (by kernel_rfl) (by (simp only [sd300, go_sem, List.length_set, Nat.reduceAdd, Nat.reduceEqDiff, Nat.reduceLT, Nat.reduceLeDiff, bI2, zl.idsL, zl.renL, zl.snapAll, z8.idsL, z8.renL, z8.snapAll]) <;> rfl) (lp_l_RangesOne_7a a b cuts _ (i7 + 1) va12p1_0 (zg hd7) (ze hd7) (by omega) (by omega) (by omega) (by omega)) (by kernel_rfl)
    | x1 =>
      try dsimp only
      exact po_turn [.dec true, .rw 40 (I ((a.l.length : Nat) : Int)), .el (.agg [I ((GS.at a (w64 ((w64 (((a.l.length : Nat) : Int) - 1)) - ((i7 : Nat) : Int)))).lo), I ((GS.at a (w64 ((w64 (((a.l.length : Nat) : Int) - 1)) - ((i7 : Nat) : Int)))).hi)]), .rw 47 (I ((cuts.l.length : Nat) : Int)), .loop (.exit 2) (sd283 a b cuts i7), .rw 84 (I ((i7 + 1 : Nat) : Int))] (And.intro (inc_rw (i := i7) (by have := ze hd7; omega)) (And.intro (po_lr (q := lr_l_RangesOne_12p1 a b cuts i7 ((GS.at a (w64 ((w64 (((a.l.length : Nat) : Int) - 1)) - ((i7 : Nat) : Int)))).lo) ((GS.at a (w64 ((w64 (((a.l.length : Nat) : Int) - 1)) - ((i7 : Nat) : Int)))).hi)) (lp_l_RangesOne_12p1 a b cuts i7 ((GS.at a (w64 ((w64 (((a.l.length : Nat) : Int) - 1)) - ((i7 : Nat) : Int)))).lo) ((GS.at a (w64 ((w64 (((a.l.length : Nat) : Int) - 1)) - ((i7 : Nat) : Int)))).hi) cuts.l 0 (List.drop_zero) (Nat.zero_le _) (by omega) (by omega) (by omega)) h33) (And.intro (zh I cuts) (And.intro (el_in (s := a) (f := S_Span.D) (k := 2) (i := w64 ((w64 (((a.l.length : Nat) : Int) - 1)) - ((i7 : Nat) : Int))) (by simp only [List.length_append, List.length_cons, List.length_nil, zm] at * <;> omega) (by simp only [List.length_append, List.length_cons, List.length_nil, zm] at * <;> omega)) (And.intro (zh S_Span.D a) (And.intro (lt_at hd7) trivial)))))) (lp_l_RangesOne_7a a b cuts _ (i7 + 1) [(GS.at a (w64 ((w64 (((a.l.length : Nat) : Int) - 1)) - ((i7 : Nat) : Int))))] (zg hd7) (ze hd7) (by omega) (by omega) (by simp only [List.length_append, List.length_cons, List.length_nil] at * <;> omega) (by omega)) (by kernel_rfl)
theorem ivt_l_RangesOne_7 (a : GS S_Span) (b : GS S_Span) (cuts : GS Int) : ∀ (rest7 : List S_Span) (i7 : Nat) (hd7 : a.l.drop i7 = rest7) (hi7 : i7 ≤ a.l.length) (ha64 : a.l.length ≤ 64) (hc64 : cuts.l.length ≤ 64) (hL7 : a.l.length ≤ 1099511627776), iv_l_RangesOne_7 a b cuts (l_RangesOne_7 a cuts rest7 i7) := by
  intro rest7
  induction rest7 with
  | nil =>
    intro i7 hd7 hi7 ha64 hc64 hL7
    unfold l_RangesOne_7
    obtain rfl : i7 = a.l.length := nil_eq hd7 hi7
    exact trivial
  | cons x7 rest7 ih =>
    intro i7 hd7 hi7 ha64 hc64 hL7
    have hlt7 := ze hd7
    unfold l_RangesOne_7
    dsimp only
    cases h33 : zI ((GS.at a (w64 ((w64 (((a.l.length : Nat) : Int) - 1)) - ((i7 : Nat) : Int)))).lo) ((GS.at a (w64 ((w64 (((a.l.length : Nat) : Int) - 1)) - ((i7 : Nat) : Int)))).hi) cuts.l with
    | x0 va12p1_0 =>
      try dsimp only
      have hv_h33 := ivt_l_RangesOne_12p1 a b cuts i7 ((GS.at a (w64 ((w64 (((a.l.length : Nat) : Int) - 1)) - ((i7 : Nat) : Int)))).lo) ((GS.at a (w64 ((w64 (((a.l.length : Nat) : Int) - 1)) - ((i7 : Nat) : Int)))).hi) cuts.l 0 (List.drop_zero) (Nat.zero_le _) (by omega) (by omega) (by omega)
      rw [h33] at hv_h33
      have hv_h33_0 := hv_h33
      try dsimp only [iv_l_RangesOne_12p1] at hv_h33_0
      exact ivt_l_RangesOne_7a a b cuts _ (i7 + 1) va12p1_0 (zg hd7) (ze hd7) (by omega) (by omega) (by omega) (by omega)
    | x1 =>
      try dsimp only
      exact ivt_l_RangesOne_7a a b cuts _ (i7 + 1) [(GS.at a (w64 ((w64 (((a.l.length : Nat) : Int) - 1)) - ((i7 : Nat) : Int))))] (zg hd7) (ze hd7) (by omega) (by omega) (by simp only [List.length_append, List.length_cons, List.length_nil] at * <;> omega) (by omega)

def l_RangesOne (a : GS S_Span) (b : GS S_Span) (cuts : GS Int) : Bool :=
  bif (r_Valid a) then
    bif (r_Valid b) then
      bif decide (((cuts.l.length : Nat) : Int) > 64) then
        true
      else
        match l_RangesOne_7 a cuts a.l 0 with
        | .x0 va7_0 =>
          bif ((zo (GS.some va7_0)).1).nl then
            bif (((zo (GS.some va7_0)).2) != 0) then
              false
            else
              bif (zq ((zo (GS.some va7_0)).1) a) then
                bif ((zd a b).1) then
                  bif ((zd b a).1) then
                    bif (true == (zq a b)) then
                      true
                    else
                      false
                  else
                    bif (false == (zq a b)) then
                      true
                    else
                      false
                else
                  bif ((zd b a).1) then
                    bif (false == (zq a b)) then
                      true
                    else
                      false
                  else
                    bif (false == (zq a b)) then
                      true
                    else
                      false
              else
                false
          else
            bif (((zo (GS.some va7_0)).2) != 0) then
              false
            else
              bif (zq ((zo (GS.some va7_0)).1) a) then
                bif ((zd a b).1) then
                  bif ((zd b a).1) then
                    bif (true == (zq a b)) then
                      true
                    else
                      false
                  else
                    bif (false == (zq a b)) then
                      true
                    else
                      false
                else
                  bif ((zd b a).1) then
                    bif (false == (zq a b)) then
                      true
                    else
                      false
                  else
                    bif (false == (zq a b)) then
                      true
                    else
                      false
              else
                false
        | .x1 =>
          bif (((zo GS.nil).2) != 0) then
            false
          else
            bif (zq ((zo GS.nil).1) a) then
              bif ((zd a b).1) then
                bif ((zd b a).1) then
                  bif (true == (zq a b)) then
                    true
                  else
                    false
                else
                  bif (false == (zq a b)) then
                    true
                  else
                    false
              else
                bif ((zd b a).1) then
                  bif (false == (zq a b)) then
                    true
                  else
                    false
                else
                  bif (false == (zq a b)) then
                    true
                  else
                    false
            else
              false
    else
      true
  else
    true

def zu (a : GS S_Span) (b : GS S_Span) (cuts : GS Int) : List Ora := [.pure (B true), .dec true, .pure (B (r_Valid a)), .dec true, .pure (B (r_Valid b)), .dec true, .rw 30 (I ((cuts.l.length : Nat) : Int))]

def sd301 (a : GS S_Span) (b : GS S_Span) (cuts : GS Int) (va7_0 : List S_Span) : St := ⟨126, [(36, B false), (0, .sl a.nl (a.l.map S_Span.D) (zsl a.nl 2) none), (1, .sl b.nl (b.l.map S_Span.D) (zsl b.nl 2) none), (2, .sl cuts.nl (cuts.l.map I) (zsl cuts.nl 1) none), (7, .lsl 0 0 va7_0.length 2 none), (34, I ((a.l.length : Nat) : Int)), (35, I ((a.l.length : Nat) : Int))], [(0, ⟨va7_0.map S_Span.D, 2, false⟩)], 1, 0⟩

def l_RangesOne_o2 (a : GS S_Span) (b : GS S_Span) (cuts : GS Int) (va7_0 : List S_Span) : List Ora := [.dec false, .rw 34 (I ((a.l.length : Nat) : Int)), .loop (.exit 0) (sd301 a b cuts va7_0), .pureS (.tup [.sl (((zo (GS.some va7_0)).1).nl) ((((zo (GS.some va7_0)).1).l).map S_Span.D) (zsl (((zo (GS.some va7_0)).1).nl) 2) none, I ((zo (GS.some va7_0)).2)]) true [(0, .sl false (va7_0.map S_Span.D) 2 none, [0])]]

def l_RangesOne_o3 (a : GS S_Span) (b : GS S_Span) (va7_0 : List S_Span) : List Ora := [.dec false, .pure (B (zq ((zo (GS.some va7_0)).1) a)), .rw 95 (B (zq ((zo (GS.some va7_0)).1) a)), .op (some 96) ⟨B false, [], [], 1⟩, .pure (.tup [B ((zd a b).1), I ((zd a b).2)])]

def l_RangesOne_o4 (a : GS S_Span) (b : GS S_Span) : List Ora := [.dec true, .pure (.tup [B ((zd b a).1), I ((zd b a).2)]), .dec true, .dec true, .dec true, .pure (B (zq a b)), .rw 123 (B (zq a b))]

def l_RangesOne_o5 (a : GS S_Span) (b : GS S_Span) : List Ora := [.dec true, .pure (.tup [B ((zd b a).1), I ((zd b a).2)]), .dec false, .dec true, .dec true, .pure (B (zq a b)), .rw 123 (B (zq a b))]

def l_RangesOne_o6 (a : GS S_Span) (b : GS S_Span) : List Ora := [.dec false, .pure (.tup [B ((zd b a).1), I ((zd b a).2)]), .dec true, .dec true, .dec true, .pure (B (zq a b)), .rw 123 (B (zq a b))]

def l_RangesOne_o7 (a : GS S_Span) (b : GS S_Span) : List Ora := [.dec false, .pure (.tup [B ((zd b a).1), I ((zd b a).2)]), .dec false, .dec true, .dec true, .pure (B (zq a b)), .rw 123 (B (zq a b))]

def l_RangesOne_o8 (a : GS S_Span) (b : GS S_Span) (cuts : GS Int) (va7_0 : List S_Span) : List Ora := [.dec false, .rw 34 (I ((a.l.length : Nat) : Int)), .loop (.exit 0) (sd301 a b cuts va7_0), .pureS (.tup [.sl (((zo (GS.some va7_0)).1).nl) ((((zo (GS.some va7_0)).1).l).map S_Span.D) (zsl (((zo (GS.some va7_0)).1).nl) 2) none, I ((zo (GS.some va7_0)).2)]) false [(0, .sl false (va7_0.map S_Span.D) 2 none, [0])]]

def l_RangesOne_o9 (a : GS S_Span) (b : GS S_Span) (va7_0 : List S_Span) : List Ora := [.dec false, .pure (B (zq ((zo (GS.some va7_0)).1) a)), .rw 95 (B (zq ((zo (GS.some va7_0)).1) a)), .op (some 96) ⟨B false, [], [], 1⟩, .pure (.tup [B ((zd a b).1), I ((zd a b).2)])]

def l_RangesOne_o10 (a : GS S_Span) (b : GS S_Span) : List Ora := [.dec true, .pure (.tup [B ((zd b a).1), I ((zd b a).2)]), .dec true, .dec true, .dec true, .pure (B (zq a b)), .rw 123 (B (zq a b))]

def l_RangesOne_o11 (a : GS S_Span) (b : GS S_Span) : List Ora := [.dec true, .pure (.tup [B ((zd b a).1), I ((zd b a).2)]), .dec false, .dec true, .dec true, .pure (B (zq a b)), .rw 123 (B (zq a b))]

def l_RangesOne_o12 (a : GS S_Span) (b : GS S_Span) : List Ora := [.dec false, .pure (.tup [B ((zd b a).1), I ((zd b a).2)]), .dec true, .dec true, .dec true, .pure (B (zq a b)), .rw 123 (B (zq a b))]

def l_RangesOne_o13 (a : GS S_Span) (b : GS S_Span) : List Ora := [.dec false, .pure (.tup [B ((zd b a).1), I ((zd b a).2)]), .dec false, .dec true, .dec true, .pure (B (zq a b)), .rw 123 (B (zq a b))]

def sd302 (a : GS S_Span) (b : GS S_Span) (cuts : GS Int) : St := ⟨126, [(36, B false), (0, .sl a.nl (a.l.map S_Span.D) (zsl a.nl 2) none), (1, .sl b.nl (b.l.map S_Span.D) (zsl b.nl 2) none), (2, .sl cuts.nl (cuts.l.map I) (zsl cuts.nl 1) none), (7, .sl true [] 0 none), (34, I ((a.l.length : Nat) : Int)), (35, I ((a.l.length : Nat) : Int))], [], 0, 0⟩

def l_RangesOne_o14 (a : GS S_Span) (b : GS S_Span) (cuts : GS Int) : List Ora := [.dec false, .rw 34 (I ((a.l.length : Nat) : Int)), .loop (.exit 0) (sd302 a b cuts), .pure (.tup [.sl (((zo GS.nil).1).nl) ((((zo GS.nil).1).l).map S_Span.D) (zsl (((zo GS.nil).1).nl) 2) none, I ((zo GS.nil).2)])]

def l_RangesOne_o15 (a : GS S_Span) (b : GS S_Span) : List Ora := [.dec false, .pure (B (zq ((zo GS.nil).1) a)), .rw 95 (B (zq ((zo GS.nil).1) a)), .op (some 96) ⟨B false, [], [], 0⟩, .pure (.tup [B ((zd a b).1), I ((zd a b).2)])]

def l_RangesOne_o16 (a : GS S_Span) (b : GS S_Span) : List Ora := [.dec true, .pure (.tup [B ((zd b a).1), I ((zd b a).2)]), .dec true, .dec true, .dec true, .pure (B (zq a b)), .rw 123 (B (zq a b))]

def l_RangesOne_o17 (a : GS S_Span) (b : GS S_Span) : List Ora := [.dec true, .pure (.tup [B ((zd b a).1), I ((zd b a).2)]), .dec false, .dec true, .dec true, .pure (B (zq a b)), .rw 123 (B (zq a b))]

def l_RangesOne_o18 (a : GS S_Span) (b : GS S_Span) : List Ora := [.dec false, .pure (.tup [B ((zd b a).1), I ((zd b a).2)]), .dec true, .dec true, .dec true, .pure (B (zq a b)), .rw 123 (B (zq a b))]

def l_RangesOne_o19 (a : GS S_Span) (b : GS S_Span) : List Ora := [.dec false, .pure (.tup [B ((zd b a).1), I ((zd b a).2)]), .dec false, .dec true, .dec true, .pure (B (zq a b)), .rw 123 (B (zq a b))]

theorem T_l_RangesOne (a : GS S_Span) (b : GS S_Span) (cuts : GS Int) (hLa : a.l.length ≤ 9223372036854775807) (hLb : b.l.length ≤ 9223372036854775807) (hLc : cuts.l.length ≤ 9223372036854775807) : (lim cfg).pure 6 [GS.D S_Span.D 2 a, GS.D S_Span.D 2 b, GS.D I 1 cuts] = some (B (l_RangesOne a b cuts)) := by
  unfold l_RangesOne
  cases h1 : (r_Valid a) with
  | true =>
    have g1 := ok64 (zt.1 h1)
    cases h2 : (r_Valid b) with
    | true =>
      have g2 := ok64 (zt.1 h2)
      cases h3 : decide (((cuts.l.length : Nat) : Int) > 64) with
      | true =>
        have g3 := of_decide_eq_true h3
        exact zj ((zu a b cuts) ++ [.dec true]) (And.intro h3 (And.intro (zh I cuts) (And.intro h2 (And.intro (zk b (by omega)) (And.intro h1 (And.intro (zk a (by omega)) (And.intro (Eq.refl true) (And.intro sane_ok trivial)))))))) (by kernel_rfl)
      | false =>
        have g3 := of_decide_eq_false h3
        cases h34 : l_RangesOne_7 a cuts a.l 0 with
        | x0 va7_0 =>
          try dsimp only
          have hv_h34 := ivt_l_RangesOne_7 a b cuts a.l 0 (List.drop_zero) (Nat.zero_le _) (by omega) (by omega) (by omega)
          rw [h34] at hv_h34
          have hv_h34_0 := hv_h34
          try dsimp only [iv_l_RangesOne_7] at hv_h34_0
          have p1 := (po_lr (q := lr_l_RangesOne_7 a b cuts) (lp_l_RangesOne_7 a b cuts a.l 0 (List.drop_zero) (Nat.zero_le _) (by omega) (by omega) (by omega)) h34)
          cases h35 : ((zo (GS.some va7_0)).1).nl with
          | true =>
            have p2 := (And.intro (show flat fuelD (.tup [.sl (((zo (GS.some va7_0)).1).nl) ((((zo (GS.some va7_0)).1).l).map S_Span.D) (zsl (((zo (GS.some va7_0)).1).nl) 2) none, I ((zo (GS.some va7_0)).2)]) = true from (by rw [h35] <;> kernel_rfl)) (And.intro (And.intro (snap_row (gO := zr [(0, ⟨va7_0.map S_Span.D, 2, false⟩)]) (o := 0) (len := va7_0.length) (cap := none) (fz := false) z8 va7_0 (by kernel_rfl) (by omega)) trivial) (T_ranges_Of (GS.some va7_0) (by simp only [GS.some_l]; omega))))
            cases h36 : (((zo (GS.some va7_0)).2) != 0) with
            | true =>
              have g36 := bne_true h36
              exact zj ((zu a b cuts) ++ ((l_RangesOne_o2 a b cuts va7_0) ++ [.dec true])) (And.intro h36 (And.intro p2 (And.intro p1 (And.intro (zh S_Span.D a) (And.intro h3 (And.intro (zh I cuts) (And.intro h2 (And.intro (zk b (by omega)) (And.intro h1 (And.intro (zk a (by omega)) (And.intro (Eq.refl true) (And.intro sane_ok trivial)))))))))))) (by kernel_rfl)
            | false =>
              have g36 := bne_false h36
              have p3 := (T_r_Same ((zo (GS.some va7_0)).1) a (Nat.le_trans (gr_len (Of_gr (by simp only [GS.some_l]; omega))) (by decide)))
              have p4 := (Eq.refl (B (zq ((zo (GS.some va7_0)).1) a)))
              cases h37 : (zq ((zo (GS.some va7_0)).1) a) with
              | true =>
                have p5 := (T_ranges_Within a b (by omega) (by omega) (by omega))
                cases h38 : ((zd a b).1) with
                | true =>
                  have p6 := (T_ranges_Within b a (by omega) (by omega) (by omega))
                  cases h39 : ((zd b a).1) with
                  | true =>
                    have p7 := (show (((zd a b).2) == 0) = true from (zK (zt.1 (by assumption)) (zt.1 (by assumption))))
                    have p8 := (show (((zd b a).2) == 0) = true from (zK (zt.1 (by assumption)) (zt.1 (by assumption))))
                    cases h40 : (true == (zq a b)) with
                    | true =>
                      have g40 := eq_of_beq h40
                      exact zj ((zu a b cuts) ++ ((l_RangesOne_o2 a b cuts va7_0) ++ ((l_RangesOne_o3 a b va7_0) ++ ((l_RangesOne_o4 a b) ++ [.dec true])))) (And.intro h40 (And.intro (Eq.refl (B (zq a b))) (And.intro (T_r_Same a b (by omega)) (And.intro p8 (And.intro p7 (And.intro h39 (And.intro p6 (And.intro h38 (And.intro p5 (And.intro (not_op (nxt := 1) h37) (And.intro p4 (And.intro p3 (And.intro h36 (And.intro p2 (And.intro p1 (And.intro (zh S_Span.D a) (And.intro h3 (And.intro (zh I cuts) (And.intro h2 (And.intro (zk b (by omega)) (And.intro h1 (And.intro (zk a (by omega)) (And.intro (Eq.refl true) (And.intro sane_ok trivial)))))))))))))))))))))))) (by kernel_rfl)
                    | false =>
                      have g40 := ne_of_beq_false h40
                      exact zj ((zu a b cuts) ++ ((l_RangesOne_o2 a b cuts va7_0) ++ ((l_RangesOne_o3 a b va7_0) ++ ((l_RangesOne_o4 a b) ++ [.dec false])))) (And.intro h40 (And.intro (Eq.refl (B (zq a b))) (And.intro (T_r_Same a b (by omega)) (And.intro p8 (And.intro p7 (And.intro h39 (And.intro p6 (And.intro h38 (And.intro p5 (And.intro (not_op (nxt := 1) h37) (And.intro p4 (And.intro p3 (And.intro h36 (And.intro p2 (And.intro p1 (And.intro (zh S_Span.D a) (And.intro h3 (And.intro (zh I cuts) (And.intro h2 (And.intro (zk b (by omega)) (And.intro h1 (And.intro (zk a (by omega)) (And.intro (Eq.refl true) (And.intro sane_ok trivial)))))))))))))))))))))))) (by kernel_rfl)
                  | false =>
                    have p9 := (show (((zd a b).2) == 0) = true from (zK (zt.1 (by assumption)) (zt.1 (by assumption))))
                    have p10 := (show (((zd b a).2) == 0) = true from (zK (zt.1 (by assumption)) (zt.1 (by assumption))))
                    cases h41 : (false == (zq a b)) with
                    | true =>
                      have g41 := eq_of_beq h41
                      exact zj ((zu a b cuts) ++ ((l_RangesOne_o2 a b cuts va7_0) ++ ((l_RangesOne_o3 a b va7_0) ++ ((l_RangesOne_o5 a b) ++ [.dec true])))) (And.intro h41 (And.intro (Eq.refl (B (zq a b))) (And.intro (T_r_Same a b (by omega)) (And.intro p10 (And.intro p9 (And.intro h39 (And.intro p6 (And.intro h38 (And.intro p5 (And.intro (not_op (nxt := 1) h37) (And.intro p4 (And.intro p3 (And.intro h36 (And.intro p2 (And.intro p1 (And.intro (zh S_Span.D a) (And.intro h3 (And.intro (zh I cuts) (And.intro h2 (And.intro (zk b (by omega)) (And.intro h1 (And.intro (zk a (by omega)) (And.intro (Eq.refl true) (And.intro sane_ok trivial)))))))))))))))))))))))) (by kernel_rfl)
                    | false =>
                      have g41 := ne_of_beq_false h41
                      exact zj ((zu a b cuts) ++ ((l_RangesOne_o2 a b cuts va7_0) ++ ((l_RangesOne_o3 a b va7_0) ++ ((l_RangesOne_o5 a b) ++ [.dec false])))) (And.intro h41 (And.intro (Eq.refl (B (zq a b))) (And.intro (T_r_Same a b (by omega)) (And.intro p10 (And.intro p9 (And.intro h39 (And.intro p6 (And.intro h38 (And.intro p5 (And.intro (not_op (nxt := 1) h37) (And.intro p4 (And.intro p3 (And.intro h36 (And.intro p2 (And.intro p1 (And.intro (zh S_Span.D a) (And.intro h3 (And.intro (zh I cuts) (And.intro h2 (And.intro (zk b (by omega)) (And.intro h1 (And.intro (zk a (by omega)) (And.intro (Eq.refl true) (And.intro sane_ok trivial)))))))))))))))))))))))) (by kernel_rfl)
                | false =>
                  have p11 := (T_ranges_Within b a (by omega) (by omega) (by omega))
                  cases h42 : ((zd b a).1) with
                  | true =>
                    have p12 := (show (((zd a b).2) == 0) = true from (zK (zt.1 (by assumption)) (zt.1 (by assumption))))
                    have p13 := (show (((zd b a).2) == 0) = true from (zK (zt.1 (by assumption)) (zt.1 (by assumption))))
                    cases h43 : (false == (zq a b)) with
                    | true =>
                      have g43 := eq_of_beq h43
                      exact zj ((zu a b cuts) ++ ((l_RangesOne_o2 a b cuts va7_0) ++ ((l_RangesOne_o3 a b va7_0) ++ ((l_RangesOne_o6 a b) ++ [.dec true])))) (And.intro h43 (And.intro (Eq.refl (B (zq a b))) (And.intro (T_r_Same a b (by omega)) (And.intro p13 (And.intro p12 (And.intro h42 (And.intro p11 (And.intro h38 (And.intro p5 (And.intro (not_op (nxt := 1) h37) (And.intro p4 (And.intro p3 (And.intro h36 (And.intro p2 (And.intro p1 (And.intro (zh S_Span.D a) (And.intro h3 (And.intro (zh I cuts) (And.intro h2 (And.intro (zk b (by omega)) (And.intro h1 (And.intro (zk a (by omega)) (And.intro (Eq.refl true) (And.intro sane_ok trivial)))))))))))))))))))))))) (by kernel_rfl)
                    | false =>
                      have g43 := ne_of_beq_false h43
                      exact zj ((zu a b cuts) ++ ((l_RangesOne_o2 a b cuts va7_0) ++ ((l_RangesOne_o3 a b va7_0) ++ ((l_RangesOne_o6 a b) ++ [.dec false])))) (And.intro h43 (And.intro (Eq.refl (B (zq a b))) (And.intro (T_r_Same a b (by omega)) (And.intro p13 (And.intro p12 (And.intro h42 (And.intro p11 (And.intro h38 (And.intro p5 (And.intro (not_op (nxt := 1) h37) (And.intro p4 (And.intro p3 (And.intro h36 (And.intro p2 (And.intro p1 (And.intro (zh S_Span.D a) (And.intro h3 (And.intro (zh I cuts) (And.intro h2 (And.intro (zk b (by omega)) (And.intro h1 (And.intro (zk a (by omega)) (And.intro (Eq.refl true) (And.intro sane_ok trivial)))))))))))))))))))))))) (by kernel_rfl)
                  | false =>
                    have p14 := (show (((zd a b).2) == 0) = true from (zK (zt.1 (by assumption)) (zt.1 (by assumption))))
                    have p15 := (show (((zd b a).2) == 0) = true from (zK (zt.1 (by assumption)) (zt.1 (by assumption))))
                    cases h44 : (false == (zq a b)) with
                    | true =>
                      have g44 := eq_of_beq h44
                      exact zj ((zu a b cuts) ++ ((l_RangesOne_o2 a b cuts va7_0) ++ ((l_RangesOne_o3 a b va7_0) ++ ((l_RangesOne_o7 a b) ++ [.dec true])))) (And.intro h44 (And.intro (Eq.refl (B (zq a b))) (And.intro (T_r_Same a b (by omega)) (And.intro p15 (And.intro p14 (And.intro h42 (And.intro p11 (And.intro h38 (And.intro p5 (And.intro (not_op (nxt := 1) h37) (And.intro p4 (And.intro p3 (And.intro h36 (And.intro p2 (And.intro p1 (And.intro (zh S_Span.D a) (And.intro h3 (And.intro (zh I cuts) (And.intro h2 (And.intro (zk b (by omega)) (And.intro h1 (And.intro (zk a (by omega)) (And.intro (Eq.refl true) (And.intro sane_ok trivial)))))))))))))))))))))))) (by kernel_rfl)
                    | false =>
                      have g44 := ne_of_beq_false h44
                      exact zj ((zu a b cuts) ++ ((l_RangesOne_o2 a b cuts va7_0) ++ ((l_RangesOne_o3 a b va7_0) ++ ((l_RangesOne_o7 a b) ++ [.dec false])))) (And.intro h44 (And.intro (Eq.refl (B (zq a b))) (And.intro (T_r_Same a b (by omega)) (And.intro p15 (And.intro p14 (And.intro h42 (And.intro p11 (And.intro h38 (And.intro p5 (And.intro (not_op (nxt := 1) h37) (And.intro p4 (And.intro p3 (And.intro h36 (And.intro p2 (And.intro p1 (And.intro (zh S_Span.D a) (And.intro h3 (And.intro (zh I cuts) (And.intro h2 (And.intro (zk b (by omega)) (And.intro h1 (And.intro (zk a (by omega)) (And.intro (Eq.refl true) (And.intro sane_ok trivial)))))))))))))))))))))))) (by kernel_rfl)
              | false =>
                exact zj ((zu a b cuts) ++ ((l_RangesOne_o2 a b cuts va7_0) ++ [.dec false, .pure (B (zq ((zo (GS.some va7_0)).1) a)), .rw 95 (B (zq ((zo (GS.some va7_0)).1) a)), .op (some 96) ⟨B true, [], [], 1⟩])) (And.intro (not_op (nxt := 1) h37) (And.intro p4 (And.intro p3 (And.intro h36 (And.intro p2 (And.intro p1 (And.intro (zh S_Span.D a) (And.intro h3 (And.intro (zh I cuts) (And.intro h2 (And.intro (zk b (by omega)) (And.intro h1 (And.intro (zk a (by omega)) (And.intro (Eq.refl true) (And.intro sane_ok trivial))))))))))))))) (by kernel_rfl)
          | false =>
            have p16 := (And.intro (show flat fuelD (.tup [.sl (((zo (GS.some va7_0)).1).nl) ((((zo (GS.some va7_0)).1).l).map S_Span.D) (zsl (((zo (GS.some va7_0)).1).nl) 2) none, I ((zo (GS.some va7_0)).2)]) = false from (by rw [h35] <;> kernel_rfl)) (And.intro (And.intro (snap_row (gO := zr [(0, ⟨va7_0.map S_Span.D, 2, false⟩)]) (o := 0) (len := va7_0.length) (cap := none) (fz := false) z8 va7_0 (by kernel_rfl) (by omega)) trivial) (T_ranges_Of (GS.some va7_0) (by simp only [GS.some_l]; omega))))
            cases h45 : (((zo (GS.some va7_0)).2) != 0) with
            | true =>
              have g45 := bne_true h45
              exact zj ((zu a b cuts) ++ ((l_RangesOne_o8 a b cuts va7_0) ++ [.dec true])) (And.intro h45 (And.intro p16 (And.intro p1 (And.intro (zh S_Span.D a) (And.intro h3 (And.intro (zh I cuts) (And.intro h2 (And.intro (zk b (by omega)) (And.intro h1 (And.intro (zk a (by omega)) (And.intro (Eq.refl true) (And.intro sane_ok trivial)))))))))))) (by kernel_rfl)
            | false =>
              have g45 := bne_false h45
              have p17 := (T_r_Same ((zo (GS.some va7_0)).1) a (Nat.le_trans (gr_len (Of_gr (by simp only [GS.some_l]; omega))) (by decide)))
              have p18 := (Eq.refl (B (zq ((zo (GS.some va7_0)).1) a)))
              cases h46 : (zq ((zo (GS.some va7_0)).1) a) with
              | true =>
                have p19 := (T_ranges_Within a b (by omega) (by omega) (by omega))
                cases h47 : ((zd a b).1) with
                | true =>
                  have p20 := (T_ranges_Within b a (by omega) (by omega) (by omega))
                  cases h48 : ((zd b a).1) with
                  | true =>
                    have p21 := (show (((zd a b).2) == 0) = true from (zK (zt.1 (by assumption)) (zt.1 (by assumption))))
                    have p22 := (show (((zd b a).2) == 0) = true from (zK (zt.1 (by assumption)) (zt.1 (by assumption))))
                    cases h49 : (true == (zq a b)) with
                    | true =>
                      have g49 := eq_of_beq h49
                      exact zj ((zu a b cuts) ++ ((l_RangesOne_o8 a b cuts va7_0) ++ ((l_RangesOne_o9 a b va7_0) ++ ((l_RangesOne_o10 a b) ++ [.dec true])))) (And.intro h49 (And.intro (Eq.refl (B (zq a b))) (And.intro (T_r_Same a b (by omega)) (And.intro p22 (And.intro p21 (And.intro h48 (And.intro p20 (And.intro h47 (And.intro p19 (And.intro (not_op (nxt := 1) h46) (And.intro p18 (And.intro p17 (And.intro h45 (And.intro p16 (And.intro p1 (And.intro (zh S_Span.D a) (And.intro h3 (And.intro (zh I cuts) (And.intro h2 (And.intro (zk b (by omega)) (And.intro h1 (And.intro (zk a (by omega)) (And.intro (Eq.refl true) (And.intro sane_ok trivial)))))))))))))))))))))))) (by kernel_rfl)
                    | false =>
                      have g49 := ne_of_beq_false h49
                      exact zj ((zu a b cuts) ++ ((l_RangesOne_o8 a b cuts va7_0) ++ ((l_RangesOne_o9 a b va7_0) ++ ((l_RangesOne_o10 a b) ++ [.dec false])))) (And.intro h49 (And.intro (Eq.refl (B (zq a b))) (And.intro (T_r_Same a b (by omega)) (And.intro p22 (And.intro p21 (And.intro h48 (And.intro p20 (And.intro h47 (And.intro p19 (And.intro (not_op (nxt := 1) h46) (And.intro p18 (And.intro p17 (And.intro h45 (And.intro p16 (And.intro p1 (And.intro (zh S_Span.D a) (And.intro h3 (And.intro (zh I cuts) (And.intro h2 (And.intro (zk b (by omega)) (And.intro h1 (And.intro (zk a (by omega)) (And.intro (Eq.refl true) (And.intro sane_ok trivial)))))))))))))))))))))))) (by kernel_rfl)
                  | false =>
                    have p23 := (show (((zd a b).2) == 0) = true from (zK (zt.1 (by assumption)) (zt.1 (by assumption))))
                    have p24 := (show (((zd b a).2) == 0) = true from (zK (zt.1 (by assumption)) (zt.1 (by assumption))))
                    cases h50 : (false == (zq a b)) with
                    | true =>
                      have g50 := eq_of_beq h50
                      exact zj ((zu a b cuts) ++ ((l_RangesOne_o8 a b cuts va7_0) ++ ((l_RangesOne_o9 a b va7_0) ++ ((l_RangesOne_o11 a b) ++ [.dec true])))) (And.intro h50 (And.intro (Eq.refl (B (zq a b))) (And.intro (T_r_Same a b (by omega)) (And.intro p24 (And.intro p23 (And.intro h48 (And.intro p20 (And.intro h47 (And.intro p19 (And.intro (not_op (nxt := 1) h46) (And.intro p18 (And.intro p17 (And.intro h45 (And.intro p16 (And.intro p1 (And.intro (zh S_Span.D a) (And.intro h3 (And.intro (zh I cuts) (And.intro h2 (And.intro (zk b (by omega)) (And.intro h1 (And.intro (zk a (by omega)) (And.intro (Eq.refl true) (And.intro sane_ok trivial)))))))))))))))))))))))) (by kernel_rfl)
                    | false =>
                      have g50 := ne_of_beq_false h50
                      exact zj ((zu a b cuts) ++ ((l_RangesOne_o8 a b cuts va7_0) ++ ((l_RangesOne_o9 a b va7_0) ++ ((l_RangesOne_o11 a b) ++ [.dec false])))) (And.intro h50 (And.intro (Eq.refl (B (zq a b))) (And.intro (T_r_Same a b (by omega)) (And.intro p24 (And.intro p23 (And.intro h48 (And.intro p20 (And.intro h47 (And.intro p19 (And.intro (not_op (nxt := 1) h46) (And.intro p18 (And.intro p17 (And.intro h45 (And.intro p16 (And.intro p1 (And.intro (zh S_Span.D a) (And.intro h3 (And.intro (zh I cuts) (And.intro h2 (And.intro (zk b (by omega)) (And.intro h1 (And.intro (zk a (by omega)) (And.intro (Eq.refl true) (And.intro sane_ok trivial)))))))))))))))))))))))) (by kernel_rfl)
                | false =>
                  have p25 := (T_ranges_Within b a (by omega) (by omega) (by omega))
                  cases h51 : ((zd b a).1) with
                  | true =>
                    have p26 := (show (((zd a b).2) == 0) = true from (zK (zt.1 (by assumption)) (zt.1 (by assumption))))
                    have p27 := (show (((zd b a).2) == 0) = true from (zK (zt.1 (by assumption)) (zt.1 (by assumption))))
                    cases h52 : (false == (zq a b)) with
                    | true =>
                      have g52 := eq_of_beq h52
                      exact zj ((zu a b cuts) ++ ((l_RangesOne_o8 a b cuts va7_0) ++ ((l_RangesOne_o9 a b va7_0) ++ ((l_RangesOne_o12 a b) ++ [.dec true])))) (And.intro h52 (And.intro (Eq.refl (B (zq a b))) (And.intro (T_r_Same a b (by omega)) (And.intro p27 (And.intro p26 (And.intro h51 (And.intro p25 (And.intro h47 (And.intro p19 (And.intro (not_op (nxt := 1) h46) (And.intro p18 (And.intro p17 (And.intro h45 (And.intro p16 (And.intro p1 (And.intro (zh S_Span.D a) (And.intro h3 (And.intro (zh I cuts) (And.intro h2 (And.intro (zk b (by omega)) (And.intro h1 (And.intro (zk a (by omega)) (And.intro (Eq.refl true) (And.intro sane_ok trivial)))))))))))))))))))))))) (by kernel_rfl)
                    | false =>
                      have g52 := ne_of_beq_false h52
                      exact zj ((zu a b cuts) ++ ((l_RangesOne_o8 a b cuts va7_0) ++ ((l_RangesOne_o9 a b va7_0) ++ ((l_RangesOne_o12 a b) ++ [.dec false])))) (And.intro h52 (And.intro (Eq.refl (B (zq a b))) (And.intro (T_r_Same a b (by omega)) (And.intro p27 (And.intro p26 (And.intro h51 (And.intro p25 (And.intro h47 (And.intro p19 (And.intro (not_op (nxt := 1) h46) (And.intro p18 (And.intro p17 (And.intro h45 (And.intro p16 (And.intro p1 (And.intro (zh S_Span.D a) (And.intro h3 (And.intro (zh I cuts) (And.intro h2 (And.intro (zk b (by omega)) (And.intro h1 (And.intro (zk a (by omega)) (And.intro (Eq.refl true) (And.intro sane_ok trivial)))))))))))))))))))))))) (by kernel_rfl)
                  | false =>
                    have p28 := (show (((zd a b).2) == 0) = true from (zK (zt.1 (by assumption)) (zt.1 (by assumption))))
                    have p29 := (show (((zd b a).2) == 0) = true from (zK (zt.1 (by assumption)) (zt.1 (by assumption))))
                    cases h53 : (false == (zq a b)) with
                    | true =>
                      have g53 := eq_of_beq h53
                      exact zj ((zu a b cuts) ++ ((l_RangesOne_o8 a b cuts va7_0) ++ ((l_RangesOne_o9 a b va7_0) ++ ((l_RangesOne_o13 a b) ++ [.dec true])))) (And.intro h53 (And.intro (Eq.refl (B (zq a b))) (And.intro (T_r_Same a b (by omega)) (And.intro p29 (And.intro p28 (And.intro h51 (And.intro p25 (And.intro h47 (And.intro p19 (And.intro (not_op (nxt := 1) h46) (And.intro p18 (And.intro p17 (And.intro h45 (And.intro p16 (And.intro p1 (And.intro (zh S_Span.D a) (And.intro h3 (And.intro (zh I cuts) (And.intro h2 (And.intro (zk b (by omega)) (And.intro h1 (And.intro (zk a (by omega)) (And.intro (Eq.refl true) (And.intro sane_ok trivial)))))))))))))))))))))))) (by kernel_rfl)
                    | false =>
                      have g53 := ne_of_beq_false h53
                      exact zj ((zu a b cuts) ++ ((l_RangesOne_o8 a b cuts va7_0) ++ ((l_RangesOne_o9 a b va7_0) ++ ((l_RangesOne_o13 a b) ++ [.dec false])))) (And.intro h53 (And.intro (Eq.refl (B (zq a b))) (And.intro (T_r_Same a b (by omega)) (And.intro p29 (And.intro p28 (And.intro h51 (And.intro p25 (And.intro h47 (And.intro p19 (And.intro (not_op (nxt := 1) h46) (And.intro p18 (And.intro p17 (And.intro h45 (And.intro p16 (And.intro p1 (And.intro (zh S_Span.D a) (And.intro h3 (And.intro (zh I cuts) (And.intro h2 (And.intro (zk b (by omega)) (And.intro h1 (And.intro (zk a (by omega)) (And.intro (Eq.refl true) (And.intro sane_ok trivial)))))))))))))))))))))))) (by kernel_rfl)
              | false =>
                exact zj ((zu a b cuts) ++ ((l_RangesOne_o8 a b cuts va7_0) ++ [.dec false, .pure (B (zq ((zo (GS.some va7_0)).1) a)), .rw 95 (B (zq ((zo (GS.some va7_0)).1) a)), .op (some 96) ⟨B true, [], [], 1⟩])) (And.intro (not_op (nxt := 1) h46) (And.intro p18 (And.intro p17 (And.intro h45 (And.intro p16 (And.intro p1 (And.intro (zh S_Span.D a) (And.intro h3 (And.intro (zh I cuts) (And.intro h2 (And.intro (zk b (by omega)) (And.intro h1 (And.intro (zk a (by omega)) (And.intro (Eq.refl true) (And.intro sane_ok trivial))))))))))))))) (by kernel_rfl)
        | x1 =>
          try dsimp only
          have p30 := (po_lr (q := lr_l_RangesOne_7 a b cuts) (lp_l_RangesOne_7 a b cuts a.l 0 (List.drop_zero) (Nat.zero_le _) (by omega) (by omega) (by omega)) h34)
          cases h54 : (((zo GS.nil).2) != 0) with
          | true =>
            have g54 := bne_true h54
            exact zj ((zu a b cuts) ++ ((l_RangesOne_o14 a b cuts) ++ [.dec true])) (And.intro h54 (And.intro (T_ranges_Of GS.nil (by simp [GS.nil])) (And.intro p30 (And.intro (zh S_Span.D a) (And.intro h3 (And.intro (zh I cuts) (And.intro h2 (And.intro (zk b (by omega)) (And.intro h1 (And.intro (zk a (by omega)) (And.intro (Eq.refl true) (And.intro sane_ok trivial)))))))))))) (by kernel_rfl)
          | false =>
            have g54 := bne_false h54
            have p31 := (T_r_Same ((zo GS.nil).1) a (Nat.le_trans (gr_len (Of_gr (by simp [GS.nil]))) (by decide)))
            have p32 := (Eq.refl (B (zq ((zo GS.nil).1) a)))
            cases h55 : (zq ((zo GS.nil).1) a) with
            | true =>
              have p33 := (T_ranges_Within a b (by omega) (by omega) (by omega))
              cases h56 : ((zd a b).1) with
              | true =>
                have p34 := (T_ranges_Within b a (by omega) (by omega) (by omega))
                cases h57 : ((zd b a).1) with
                | true =>
                  have p35 := (show (((zd a b).2) == 0) = true from (zK (zt.1 (by assumption)) (zt.1 (by assumption))))
                  have p36 := (show (((zd b a).2) == 0) = true from (zK (zt.1 (by assumption)) (zt.1 (by assumption))))
                  cases h58 : (true == (zq a b)) with
                  | true =>
                    have g58 := eq_of_beq h58
                    exact zj ((zu a b cuts) ++ ((l_RangesOne_o14 a b cuts) ++ ((l_RangesOne_o15 a b) ++ ((l_RangesOne_o16 a b) ++ [.dec true])))) (And.intro h58 (And.intro (Eq.refl (B (zq a b))) (And.intro (T_r_Same a b (by omega)) (And.intro p36 (And.intro p35 (And.intro h57 (And.intro p34 (And.intro h56 (And.intro p33 (And.intro (not_op (nxt := 0) h55) (And.intro p32 (And.intro p31 (And.intro h54 (And.intro (T_ranges_Of GS.nil (by simp [GS.nil])) (And.intro p30 (And.intro (zh S_Span.D a) (And.intro h3 (And.intro (zh I cuts) (And.intro h2 (And.intro (zk b (by omega)) (And.intro h1 (And.intro (zk a (by omega)) (And.intro (Eq.refl true) (And.intro sane_ok trivial)))))))))))))))))))))))) (by kernel_rfl)
                  | false =>
                    have g58 := ne_of_beq_false h58
                    exact zj ((zu a b cuts) ++ ((l_RangesOne_o14 a b cuts) ++ ((l_RangesOne_o15 a b) ++ ((l_RangesOne_o16 a b) ++ [.dec false])))) (And.intro h58 (And.intro (Eq.refl (B (zq a b))) (And.intro (T_r_Same a b (by omega)) (And.intro p36 (And.intro p35 (And.intro h57 (And.intro p34 (And.intro h56 (And.intro p33 (And.intro (not_op (nxt := 0) h55) (And.intro p32 (And.intro p31 (And.intro h54 (And.intro (T_ranges_Of GS.nil (by simp [GS.nil])) (And.intro p30 (And.intro (zh S_Span.D a) (And.intro h3 (And.intro (zh I cuts) (And.intro h2 (And.intro (zk b (by omega)) (And.intro h1 (And.intro (zk a (by omega)) (And.intro (Eq.refl true) (And.intro sane_ok trivial)))))))))))))))))))))))) (by kernel_rfl)
                | false =>
                  have p37 := (show (((zd a b).2) == 0) = true from (zK (zt.1 (by assumption)) (zt.1 (by assumption))))
                  have p38 := (show (((zd b a).2) == 0) = true from (zK (zt.1 (by assumption)) (zt.1 (by assumption))))
                  cases h59 : (false == (zq a b)) with
                  | true =>
                    have g59 := eq_of_beq h59
                    exact zj ((zu a b cuts) ++ ((l_RangesOne_o14 a b cuts) ++ ((l_RangesOne_o15 a b) ++ ((l_RangesOne_o17 a b) ++ [.dec true])))) (And.intro h59 (And.intro (Eq.refl (B (zq a b))) (And.intro (T_r_Same a b (by omega)) (And.intro p38 (And.intro p37 (And.intro h57 (And.intro p34 (And.intro h56 (And.intro p33 (And.intro (not_op (nxt := 0) h55) (And.intro p32 (And.intro p31 (And.intro h54 (And.intro (T_ranges_Of GS.nil (by simp [GS.nil])) (And.intro p30 (And.intro (zh S_Span.D a) (And.intro h3 (And.intro (zh I cuts) (And.intro h2 (And.intro (zk b (by omega)) (And.intro h1 (And.intro (zk a (by omega)) (And.intro (Eq.refl true) (And.intro sane_ok trivial)))))))))))))))))))))))) (by kernel_rfl)
                  | false =>
                    have g59 := ne_of_beq_false h59
                    exact zj ((zu a b cuts) ++ ((l_RangesOne_o14 a b cuts) ++ ((l_RangesOne_o15 a b) ++ ((l_RangesOne_o17 a b) ++ [.dec false])))) (And.intro h59 (And.intro (Eq.refl (B (zq a b))) (And.intro (T_r_Same a b (by omega)) (And.intro p38 (And.intro p37 (And.intro h57 (And.intro p34 (And.intro h56 (And.intro p33 (And.intro (not_op (nxt := 0) h55) (And.intro p32 (And.intro p31 (And.intro h54 (And.intro (T_ranges_Of GS.nil (by simp [GS.nil])) (And.intro p30 (And.intro (zh S_Span.D a) (And.intro h3 (And.intro (zh I cuts) (And.intro h2 (And.intro (zk b (by omega)) (And.intro h1 (And.intro (zk a (by omega)) (And.intro (Eq.refl true) (And.intro sane_ok trivial)))))))))))))))))))))))) (by kernel_rfl)
              | false =>
                have p39 := (T_ranges_Within b a (by omega) (by omega) (by omega))
                cases h60 : ((zd b a).1) with
                | true =>
                  have p40 := (show (((zd a b).2) == 0) = true from (zK (zt.1 (by assumption)) (zt.1 (by assumption))))
                  have p41 := (show (((zd b a).2) == 0) = true from (zK (zt.1 (by assumption)) (zt.1 (by assumption))))
                  cases h61 : (false == (zq a b)) with
                  | true =>
                    have g61 := eq_of_beq h61
                    exact zj ((zu a b cuts) ++ ((l_RangesOne_o14 a b cuts) ++ ((l_RangesOne_o15 a b) ++ ((l_RangesOne_o18 a b) ++ [.dec true])))) (And.intro h61 (And.intro (Eq.refl (B (zq a b))) (And.intro (T_r_Same a b (by omega)) (And.intro p41 (And.intro p40 (And.intro h60 (And.intro p39 (And.intro h56 (And.intro p33 (And.intro (not_op (nxt := 0) h55) (And.intro p32 (And.intro p31 (And.intro h54 (And.intro (T_ranges_Of GS.nil (by simp [GS.nil])) (And.intro p30 (And.intro (zh S_Span.D a) (And.intro h3 (And.intro (zh I cuts) (And.intro h2 (And.intro (zk b (by omega)) (And.intro h1 (And.intro (zk a (by omega)) (And.intro (Eq.refl true) (And.intro sane_ok trivial)))))))))))))))))))))))) (by kernel_rfl)
                  | false =>
                    have g61 := ne_of_beq_false h61
                    exact zj ((zu a b cuts) ++ ((l_RangesOne_o14 a b cuts) ++ ((l_RangesOne_o15 a b) ++ ((l_RangesOne_o18 a b) ++ [.dec false])))) (And.intro h61 (And.intro (Eq.refl (B (zq a b))) (And.intro (T_r_Same a b (by omega)) (And.intro p41 (And.intro p40 (And.intro h60 (And.intro p39 (And.intro h56 (And.intro p33 (And.intro (not_op (nxt := 0) h55) (And.intro p32 (And.intro p31 (And.intro h54 (And.intro (T_ranges_Of GS.nil (by simp [GS.nil])) (And.intro p30 (And.intro (zh S_Span.D a) (And.intro h3 (And.intro (zh I cuts) (And.intro h2 (And.intro (zk b (by omega)) (And.intro h1 (And.intro (zk a (by omega)) (And.intro (Eq.refl true) (And.intro sane_ok trivial)))))))))))))))))))))))) (by kernel_rfl)
                | false =>
                  have p42 := (show (((zd a b).2) == 0) = true from (zK (zt.1 (by assumption)) (zt.1 (by assumption))))
                  have p43 := (show (((zd b a).2) == 0) = true from (zK (zt.1 (by assumption)) (zt.1 (by assumption))))
                  cases h62 : (false == (zq a b)) with
                  | true =>
                    have g62 := eq_of_beq h62
                    exact zj ((zu a b cuts) ++ ((l_RangesOne_o14 a b cuts) ++ ((l_RangesOne_o15 a b) ++ ((l_RangesOne_o19 a b) ++ [.dec true])))) (And.intro h62 (And.intro (Eq.refl (B (zq a b))) (And.intro (T_r_Same a b (by omega)) (And.intro p43 (And.intro p42 (And.intro h60 (And.intro p39 (And.intro h56 (And.intro p33 (And.intro (not_op (nxt := 0) h55) (And.intro p32 (And.intro p31 (And.intro h54 (And.intro (T_ranges_Of GS.nil (by simp [GS.nil])) (And.intro p30 (And.intro (zh S_Span.D a) (And.intro h3 (And.intro (zh I cuts) (And.intro h2 (And.intro (zk b (by omega)) (And.intro h1 (And.intro (zk a (by omega)) (And.intro (Eq.refl true) (And.intro sane_ok trivial)))))))))))))))))))))))) (by kernel_rfl)
                  | false =>
                    have g62 := ne_of_beq_false h62
                    exact zj ((zu a b cuts) ++ ((l_RangesOne_o14 a b cuts) ++ ((l_RangesOne_o15 a b) ++ ((l_RangesOne_o19 a b) ++ [.dec false])))) (And.intro h62 (And.intro (Eq.refl (B (zq a b))) (And.intro (T_r_Same a b (by omega)) (And.intro p43 (And.intro p42 (And.intro h60 (And.intro p39 (And.intro h56 (And.intro p33 (And.intro (not_op (nxt := 0) h55) (And.intro p32 (And.intro p31 (And.intro h54 (And.intro (T_ranges_Of GS.nil (by simp [GS.nil])) (And.intro p30 (And.intro (zh S_Span.D a) (And.intro h3 (And.intro (zh I cuts) (And.intro h2 (And.intro (zk b (by omega)) (And.intro h1 (And.intro (zk a (by omega)) (And.intro (Eq.refl true) (And.intro sane_ok trivial)))))))))))))))))))))))) (by kernel_rfl)
            | false =>
              exact zj ((zu a b cuts) ++ ((l_RangesOne_o14 a b cuts) ++ [.dec false, .pure (B (zq ((zo GS.nil).1) a)), .rw 95 (B (zq ((zo GS.nil).1) a)), .op (some 96) ⟨B true, [], [], 0⟩])) (And.intro (not_op (nxt := 0) h55) (And.intro p32 (And.intro p31 (And.intro h54 (And.intro (T_ranges_Of GS.nil (by simp [GS.nil])) (And.intro p30 (And.intro (zh S_Span.D a) (And.intro h3 (And.intro (zh I cuts) (And.intro h2 (And.intro (zk b (by omega)) (And.intro h1 (And.intro (zk a (by omega)) (And.intro (Eq.refl true) (And.intro sane_ok trivial))))))))))))))) (by kernel_rfl)
    | false =>
      exact zj [.pure (B true), .dec true, .pure (B (r_Valid a)), .dec true, .pure (B (r_Valid b)), .dec false] (And.intro h2 (And.intro (zk b (by omega)) (And.intro h1 (And.intro (zk a (by omega)) (And.intro (Eq.refl true) (And.intro sane_ok trivial)))))) (by kernel_rfl)
  | false =>
    exact zj [.pure (B true), .dec true, .pure (B (r_Valid a)), .dec false] (And.intro h1 (And.intro (zk a (by omega)) (And.intro (Eq.refl true) (And.intro sane_ok trivial)))) (by kernel_rfl)
end Go.VS

/-
  The seat's program: its tables are right; what its arguments stand for. (Printed by go/oq.py, a program of this claim's own; nothing of it is trusted.)
-/
namespace Go.VS
open Go Go.Proofs Go.RowKit Go.ChangeShapes Go.WideShapes
set_option maxRecDepth 100000
theorem laid_out : laidOutB Tryz.prog = true := by kernel_rfl
theorem maps_rowed : mapsRowed Tryz.prog = true := by kernel_rfl
theorem sl_full : ∀ t e, t < Tryz.prog.types.size → Tryz.prog.underlying t = some (.slice e) → 0 < Tryz.prog.cellsOf e := slices_full_of Tryz.prog (by kernel_rfl)
theorem i64_min : IntKind.i64.min = -9223372036854775808 := by rfl
theorem i64_max : IntKind.i64.max = 9223372036854775807 := by rfl
def R64 (n : Int) : Prop := -9223372036854775808 ≤ n ∧ n ≤ 9223372036854775807
section
variable {H : Type} {enc : TypeId × Value → H} {w : World} {base base' : Nat} {sp : Nat → Bool} {held : Bool} {t : TypeId} {v : Value} {d : DataW H} {p : List MemPlace} {r : Reach}
theorem arg_rep (h : DataW.Trod enc Tryz.prog w base sp held t v d p) (hv : Value.okWide Tryz.prog w r base' t v) (ht : topT cfg 8 t = true) (hr : rowedT cfg 8 t = true) :
    ∃ ds, zx (memOf w) noLoc ds v.cells.toList ∧ Sh cfg 8 t ds := by
  obtain ⟨n, hn⟩ := h
  exact trod_rep (C := cfg) (fun t ty h => tyTab_ok.find h) 8 n t _ _ hn ht hr (.inl (plain_arg hv))
theorem repL_one {M : Mem} {m : Loc} {d : D} {cs : List Value} (h : zx M m [d] cs) : ∃ v, cs = [v] ∧ Rep M m d v := by
  simp only [zx] at h
  obtain ⟨v, r, h1, h2, rfl⟩ := h
  exact ⟨v, h1, h2⟩
theorem one_cell {x u : Value} (h : x.cells.toList = [u]) (hp : ∀ cs, x ≠ .agg cs) : x = u := by
  cases x <;> simp [Value.cells] at h <;> first | exact h | exact absurd rfl (hp _)
theorem ok_notAgg (hv : Value.okWide Tryz.prog w r base' t v) (hs : ∀ fs, Tryz.prog.underlying t ≠ some (.struct fs)) (ha : ∀ n e, Tryz.prog.underlying t ≠ some (.array n e)) : ∀ cs, v ≠ .agg cs := by
  rintro cs rfl
  unfold Value.okWide at hv
  split at hv
  · rename_i h; exact hs _ h
  · rename_i h; exact ha _ _ h
  · unfold Cell.okWide at hv
    split at hv <;> try (rename_i h1 h2; cases h2; done)
    unfold Cell.ok at hv
    split at hv <;> first | (rename_i h1 h2; cases h2; done) | cases hv
end
theorem sh3 {f : Nat} {ds : List D} (h : Sh cfg (f + 1) 3 ds) : ∃ x : Int, ds = [I x] ∧ R64 x := by
  rw [Sh, cfg_ty, cty3] at h
  simp only [ty3] at h
  obtain ⟨n, h1, h2, h3⟩ := h
  rw [i64_min] at h2
  rw [i64_max] at h3
  exact ⟨n, h1, h2, h3⟩
theorem sh25 {f : Nat} {ds : List D} (h : Sh cfg (f + 2) 25 ds) : ∃ x : S_Span, ds = [I x.lo, I x.hi] ∧ True := by
  rw [Sh, cfg_ty, cty25] at h
  simp only [ty25] at h
  obtain ⟨hl, hf⟩ := h
  obtain ⟨t0, q0, z0⟩ := hf (3, 0) (by simp)
  obtain rfl : t0 = ty3 := (Option.some.inj (cty3.symm.trans q0)).symm
  obtain ⟨x0, e0, r0⟩ := sh3 (f := f + 0) z0
  obtain ⟨t1, q1, z1⟩ := hf (3, 1) (by simp)
  obtain rfl : t1 = ty3 := (Option.some.inj (cty3.symm.trans q1)).symm
  obtain ⟨x1, e1, r1⟩ := sh3 (f := f + 0) z1
  rcases ds with _ | ⟨c0, _ | ⟨c1, _ | ⟨y, r⟩⟩⟩
  all_goals simp at hl
  simp [ty3] at e0
  simp [ty3] at e1
  exact ⟨⟨x0, x1⟩, by simp [*], trivial⟩
theorem sh23 {f : Nat} {ds : List D} (h : Sh cfg (f + 3) 23 ds) : ∃ x : GS S_Span, ds = [.sl x.nl (x.l.map S_Span.D) (zsl x.nl 2) none] ∧ x.l.length ≤ 9223372036854775807 := by
  rw [Sh, cfg_ty, cty23] at h
  simp only [ty23] at h
  rcases h with h | ⟨els, te, h1, h2, h3, h4⟩
  · exact ⟨GS.nil, h, by simp [GS.nil]⟩
  · obtain rfl : te = ty25 := (Option.some.inj (cty25.symm.trans h1)).symm
    have key : ∀ els : List D, (∀ d ∈ els, Sh cfg (f + 2) 25 d.cells ∧ (ty25.isAgg = true → d = .agg d.cells) ∧ (ty25.isAgg = false → d.cells = [d])) → ∃ l : List S_Span, els = l.map S_Span.D := by
      intro els
      induction els with
      | nil => intro _; exact ⟨[], rfl⟩
      | cons d els ih =>
        intro hd
        obtain ⟨l, hl⟩ := ih fun d' h' => hd d' (List.mem_cons_of_mem _ h')
        obtain ⟨q1, q2, q3⟩ := hd d (by simp)
        obtain ⟨a, e, _⟩ := sh25 (f := f + 0) q1
        have hx : d = S_Span.D a := by rw [q2 rfl, e]; rfl
        exact ⟨a :: l, by rw [List.map_cons, ← hx, ← hl]⟩
    obtain ⟨l, rfl⟩ := key els h4
    refine ⟨GS.some l, h2, ?_⟩
    simp only [List.length_map, maxLen] at h3
    simp only [GS.some]
    omega
theorem sh37 {f : Nat} {ds : List D} (h : Sh cfg (f + 2) 37 ds) : ∃ x : GS Int, ds = [.sl x.nl (x.l.map I) (zsl x.nl 1) none] ∧ x.l.length ≤ 9223372036854775807 := by
  rw [Sh, cfg_ty, cty37] at h
  simp only [ty37] at h
  rcases h with h | ⟨els, te, h1, h2, h3, h4⟩
  · exact ⟨GS.nil, h, by simp [GS.nil]⟩
  · obtain rfl : te = ty3 := (Option.some.inj (cty3.symm.trans h1)).symm
    have key : ∀ els : List D, (∀ d ∈ els, Sh cfg (f + 1) 3 d.cells ∧ (ty3.isAgg = true → d = .agg d.cells) ∧ (ty3.isAgg = false → d.cells = [d])) → ∃ l : List Int, els = l.map I := by
      intro els
      induction els with
      | nil => intro _; exact ⟨[], rfl⟩
      | cons d els ih =>
        intro hd
        obtain ⟨l, hl⟩ := ih fun d' h' => hd d' (List.mem_cons_of_mem _ h')
        obtain ⟨q1, q2, q3⟩ := hd d (by simp)
        obtain ⟨a, e, _⟩ := sh3 (f := f + 0) q1
        have hx : d = I a := by have := (q3 rfl).symm.trans e; simpa using this
        exact ⟨a :: l, by rw [List.map_cons, ← hx, ← hl]⟩
    obtain ⟨l, rfl⟩ := key els h4
    refine ⟨GS.some l, h2, ?_⟩
    simp only [List.length_map, maxLen] at h3
    simp only [GS.some]
    omega
theorem arg23 {H : Type} {enc : TypeId × Value → H} {w : World} {base base' : Nat} {sp : Nat → Bool} {held : Bool} {v : Value} {d : DataW H} {p : List MemPlace} {r : Reach} (h : DataW.Trod enc Tryz.prog w base sp held 23 v d p) (hv : Value.okWide Tryz.prog w r base' 23 v) : ∃ x : GS S_Span, Rep (memOf w) noLoc (GS.D S_Span.D 2 x) v ∧ x.l.length ≤ 9223372036854775807 := by
  obtain ⟨ds, h1, h2⟩ := arg_rep h hv (by kernel_rfl) (by kernel_rfl)
  obtain ⟨x, rfl, hx⟩ := sh23 (f := 5) h2
  obtain ⟨u, e, hu⟩ := repL_one h1
  exact ⟨x, by rw [one_cell e (ok_notAgg hv (by rw [Tryz.underlying23]; simp) (by rw [Tryz.underlying23]; simp))]; exact hu, hx⟩
theorem arg37 {H : Type} {enc : TypeId × Value → H} {w : World} {base base' : Nat} {sp : Nat → Bool} {held : Bool} {v : Value} {d : DataW H} {p : List MemPlace} {r : Reach} (h : DataW.Trod enc Tryz.prog w base sp held 37 v d p) (hv : Value.okWide Tryz.prog w r base' 37 v) : ∃ x : GS Int, Rep (memOf w) noLoc (GS.D I 1 x) v ∧ x.l.length ≤ 9223372036854775807 := by
  obtain ⟨ds, h1, h2⟩ := arg_rep h hv (by kernel_rfl) (by kernel_rfl)
  obtain ⟨x, rfl, hx⟩ := sh37 (f := 6) h2
  obtain ⟨u, e, hu⟩ := repL_one h1
  exact ⟨x, by rw [one_cell e (ok_notAgg hv (by rw [Tryz.underlying37]; simp) (by rw [Tryz.underlying37]; simp))]; exact hu, hx⟩
open Go.Lib in
/-- The table of powers, as the rows list it. -/
theorem tab_ok {W : World} (h : laidMetH Tryz.prog [("math/bits.deBruijn32tab", YtpkjnefhnedfdaaGreatDoor.Rows.laid_math_bits_deBruijn32tab), ("math/bits.deBruijn64tab", YtpkjnefhnedfdaaGreatDoor.Rows.laid_math_bits_deBruijn64tab), ("internal/strconv.uint64pow10", YtpkjnefhnedfdaaGreatDoor.Rows.laid_internal_strconv_uint64pow10), ("unicode/utf8.acceptRanges", YtpkjnefhnedfdaaGreatDoor.Rows.laid_unicode_utf8_acceptRanges), ("strconv.ErrRange", YtpkjnefhnedfdaaGreatDoor.Rows.laid_strconv_ErrRange), ("strconv.ErrSyntax", YtpkjnefhnedfdaaGreatDoor.Rows.laid_strconv_ErrSyntax), ("unicode/utf8.first", YtpkjnefhnedfdaaGreatDoor.Rows.laid_unicode_utf8_first)] W) : TabOK cfg W := by
  obtain ⟨ps, h, _⟩ : laidMet Tryz.prog [("math/bits.deBruijn32tab", YtpkjnefhnedfdaaGreatDoor.Rows.laid_math_bits_deBruijn32tab), ("math/bits.deBruijn64tab", YtpkjnefhnedfdaaGreatDoor.Rows.laid_math_bits_deBruijn64tab), ("internal/strconv.uint64pow10", YtpkjnefhnedfdaaGreatDoor.Rows.laid_internal_strconv_uint64pow10), ("unicode/utf8.acceptRanges", YtpkjnefhnedfdaaGreatDoor.Rows.laid_unicode_utf8_acceptRanges), ("strconv.ErrRange", YtpkjnefhnedfdaaGreatDoor.Rows.laid_strconv_ErrRange), ("strconv.ErrSyntax", YtpkjnefhnedfdaaGreatDoor.Rows.laid_strconv_ErrSyntax), ("unicode/utf8.first", YtpkjnefhnedfdaaGreatDoor.Rows.laid_unicode_utf8_first)] W := h
  obtain ⟨_, _, _, _, _, q, _, _, _, _, h, _⟩ := h
  obtain ⟨_, _, _, _, _, q, _, _, _, _, h, _⟩ := h
  obtain ⟨g', t', cs, fuel, p, q, hg', ht', hvar, hd, _⟩ := h
  intro g cs' hc
  have hg : g = F1.gPow ∧ cs' = F1.powTab := by
    have hc' : (bif eqb g F1.gPow then some F1.powTab else none) = some cs' := hc
    cases he : eqb g F1.gPow with
    | false => rw [he] at hc'; cases hc'
    | true => rw [he] at hc'; cases hc'; exact ⟨zP.1 he, rfl⟩
  obtain ⟨rfl, rfl⟩ := hg
  obtain rfl := Option.some.inj (F1.gPow_is.symm.trans hg')
  have hgt : (Tryz.prog.globals[F1.gPow]?).map (·.type) = some 166 := by kernel_rfl
  obtain rfl := Option.some.inj (hgt.symm.trans ht')
  have hz : (YtpkjnefhnedfdaaGreatDoor.Rows.laid_internal_strconv_uint64pow10 : DataW Unit) = Lib.tabData .u64 Lib.pow10Tab := by kernel_rfl
  rw [hz] at hd
  have hcs := cells_of_tab (n := 20) Tryz.underlying166 Tryz.underlying140 (by kernel_rfl) (by kernel_rfl) hd
  unfold World.var? at hvar
  rw [F1.gPow_is, Option.bind_some] at hvar
  split at hvar
  · rename_i c t fr hh
    cases hvar
    exact ⟨t, fr, by rw [hh, F1.powTab_is, ← hcs]⟩
  · cases hvar
noncomputable def laidWorld (os : Os) : World :=
  let n := (World.settled Tryz.prog os).heap.size
  { World.holding Tryz.prog os ⟨#[.cells #[.string ⟨#[118, 97, 108, 117, 101, 32, 111, 117, 116, 32, 111, 102, 32, 114, 97, 110, 103, 101]⟩] 174 (0, 0), .cells #[.string ⟨#[105, 110, 118, 97, 108, 105, 100, 32, 115, 121, 110, 116, 97, 120]⟩] 174 (0, 0)], #[], []⟩ with heap := ((((((((World.holding Tryz.prog os ⟨#[.cells #[.string ⟨#[118, 97, 108, 117, 101, 32, 111, 117, 116, 32, 111, 102, 32, 114, 97, 110, 103, 101]⟩] 174 (0, 0), .cells #[.string ⟨#[105, 110, 118, 97, 108, 105, 100, 32, 115, 121, 110, 116, 97, 120]⟩] 174 (0, 0)], #[], []⟩).heap.modify 6 fun | .cells _ t fr => .cells (#[.int .u8 0, .int .u8 1, .int .u8 28, .int .u8 2, .int .u8 29, .int .u8 14, .int .u8 24, .int .u8 3, .int .u8 30, .int .u8 22, .int .u8 20, .int .u8 15, .int .u8 25, .int .u8 17, .int .u8 4, .int .u8 8, .int .u8 31, .int .u8 27, .int .u8 13, .int .u8 23, .int .u8 21, .int .u8 19, .int .u8 16, .int .u8 7, .int .u8 26, .int .u8 12, .int .u8 18, .int .u8 6, .int .u8 11, .int .u8 5, .int .u8 10, .int .u8 9]) t fr | o => o).modify 7 fun | .cells _ t fr => .cells (#[.int .u8 0, .int .u8 1, .int .u8 56, .int .u8 2, .int .u8 57, .int .u8 49, .int .u8 28, .int .u8 3, .int .u8 61, .int .u8 58, .int .u8 42, .int .u8 50, .int .u8 38, .int .u8 29, .int .u8 17, .int .u8 4, .int .u8 62, .int .u8 47, .int .u8 59, .int .u8 36, .int .u8 45, .int .u8 43, .int .u8 51, .int .u8 22, .int .u8 53, .int .u8 39, .int .u8 33, .int .u8 30, .int .u8 24, .int .u8 18, .int .u8 12, .int .u8 5, .int .u8 63, .int .u8 55, .int .u8 48, .int .u8 27, .int .u8 60, .int .u8 41, .int .u8 37, .int .u8 16, .int .u8 46, .int .u8 35, .int .u8 44, .int .u8 21, .int .u8 52, .int .u8 32, .int .u8 23, .int .u8 11, .int .u8 54, .int .u8 26, .int .u8 40, .int .u8 15, .int .u8 34, .int .u8 20, .int .u8 31, .int .u8 10, .int .u8 25, .int .u8 14, .int .u8 19, .int .u8 9, .int .u8 13, .int .u8 8, .int .u8 7, .int .u8 6]) t fr | o => o).modify 3 fun | .cells _ t fr => .cells (#[.int .u64 1, .int .u64 10, .int .u64 100, .int .u64 1000, .int .u64 10000, .int .u64 100000, .int .u64 1000000, .int .u64 10000000, .int .u64 100000000, .int .u64 1000000000, .int .u64 10000000000, .int .u64 100000000000, .int .u64 1000000000000, .int .u64 10000000000000, .int .u64 100000000000000, .int .u64 1000000000000000, .int .u64 10000000000000000, .int .u64 100000000000000000, .int .u64 1000000000000000000, .int .u64 10000000000000000000]) t fr | o => o).modify 5 fun | .cells _ t fr => .cells (#[.int .u8 128, .int .u8 191, .int .u8 160, .int .u8 191, .int .u8 128, .int .u8 159, .int .u8 144, .int .u8 191, .int .u8 128, .int .u8 143, .int .u8 0, .int .u8 0, .int .u8 0, .int .u8 0, .int .u8 0, .int .u8 0, .int .u8 0, .int .u8 0, .int .u8 0, .int .u8 0, .int .u8 0, .int .u8 0, .int .u8 0, .int .u8 0, .int .u8 0, .int .u8 0, .int .u8 0, .int .u8 0, .int .u8 0, .int .u8 0, .int .u8 0, .int .u8 0]) t fr | o => o).modify 2 fun | .cells _ t fr => .cells (#[.iface 172 (.pointer (some ⟨n + 0, 0, none⟩))]) t fr | o => o).modify 1 fun | .cells _ t fr => .cells (#[.iface 172 (.pointer (some ⟨n + 1, 0, none⟩))]) t fr | o => o).modify 4 fun | .cells _ t fr => .cells ((Go.Pinned.utf8FirstZ.map fun z => Value.int .u8 (Int.ofNat z)).toArray) t fr | o => o) }
end Go.VS

/-
  RangesOne answers true. (A text of this claim's own; nothing of it is trusted.)
-/
namespace Go.VS
open Go
set_option maxHeartbeats 0
theorem pieces {lo hi c : Int} (h1 : lo ≤ c) (h2 : c < hi) {v : List S_Span} {x : Int} : In (v ++ [(⟨c + 1, hi⟩ : S_Span), ⟨lo, c⟩, ⟨c, c - 1⟩]) x ↔ In v x ∨ (lo ≤ x ∧ x ≤ hi) := by
  rw [In_append, In_cons, In_cons, In_cons]
  have := @In_nil x
  constructor
  · rintro (h | h | h | h | h)
    · exact .inl h
    · right; simp only at h; omega
    · right; simp only at h; omega
    · simp only at h; omega
    · exact absurd h this
  · rintro (h | h)
    · exact .inl h
    · by_cases hc : x ≤ c
      · exact .inr (.inr (.inl ⟨h.1, hc⟩))
      · exact .inr (.inl ⟨by simp only; omega, h.2⟩)
section
variable {lo hi : Int}
theorem one12 (hb : -1099511627776 ≤ lo ∧ hi ≤ 1099511627776) : ∀ (cs : List Int) (v : List S_Span) (w : Bool), ∃ v' w', l_RangesOne_12 lo hi cs v w = .x0 v' w' ∧ v'.length ≤ v.length + 3 * cs.length ∧ ((w' = w ∧ v' = v) ∨ (w' = false ∧ ∀ x, In v' x ↔ In v x ∨ (lo ≤ x ∧ x ≤ hi)))
  | [], v, w => ⟨v, w, rfl, by omega, .inl ⟨rfl, rfl⟩⟩
  | c :: cs, v, w => by
    unfold l_RangesOne_12
    by_cases h1 : lo ≤ c
    · rw [decide_eq_true (show c ≥ lo from h1), cond_true]
      by_cases h2 : c < hi
      · rw [decide_eq_true h2, cond_true, w64_eq (by omega) (by omega), w64_eq (by omega) (by omega)]
        obtain ⟨v', w', e, hl, k⟩ := one12 hb cs (v ++ [(⟨c + 1, hi⟩ : S_Span), ⟨lo, c⟩, ⟨c, c - 1⟩]) false
        refine ⟨v', w', e, ?_, .inr ?_⟩
        · simp only [List.length_append, List.length_cons, List.length_nil] at hl ⊢; omega
        · rcases k with ⟨k1, k2⟩ | ⟨k1, k2⟩
          · exact ⟨k1, fun x => by rw [k2]; exact pieces h1 h2⟩
          · exact ⟨k1, fun x => by rw [k2, pieces h1 h2, or_assoc, or_self]⟩
      · rw [decide_eq_false h2, cond_false]
        obtain ⟨v', w', e, hl, k⟩ := one12 hb cs v w
        exact ⟨v', w', e, by simp only [List.length_cons]; omega, k⟩
    · rw [decide_eq_false (show ¬ c ≥ lo from h1), cond_false]
      obtain ⟨v', w', e, hl, k⟩ := one12 hb cs v w
      exact ⟨v', w', e, by simp only [List.length_cons]; omega, k⟩
theorem one12a (hb : -1099511627776 ≤ lo ∧ hi ≤ 1099511627776) : ∀ (cs : List Int) (v : List S_Span), ∃ v', l_RangesOne_12p1a lo hi cs v = .x0 v' ∧ v'.length ≤ v.length + 3 * cs.length ∧ (v' = v ∨ ∀ x, In v' x ↔ In v x ∨ (lo ≤ x ∧ x ≤ hi))
  | [], v => ⟨v, rfl, by omega, .inl rfl⟩
  | c :: cs, v => by
    unfold l_RangesOne_12p1a
    by_cases h1 : lo ≤ c
    · rw [decide_eq_true (show c ≥ lo from h1), cond_true]
      by_cases h2 : c < hi
      · rw [decide_eq_true h2, cond_true, w64_eq (by omega) (by omega), w64_eq (by omega) (by omega)]
        obtain ⟨v', e, hl, k⟩ := one12a hb cs (v ++ [(⟨c + 1, hi⟩ : S_Span), ⟨lo, c⟩, ⟨c, c - 1⟩])
        refine ⟨v', e, ?_, .inr ?_⟩
        · simp only [List.length_append, List.length_cons, List.length_nil] at hl ⊢; omega
        · rcases k with k2 | k2
          · exact fun x => by rw [k2]; exact pieces h1 h2
          · exact fun x => by rw [k2, pieces h1 h2, or_assoc, or_self]
      · rw [decide_eq_false h2, cond_false]
        obtain ⟨v', e, hl, k⟩ := one12a hb cs v
        exact ⟨v', e, by simp only [List.length_cons]; omega, k⟩
    · rw [decide_eq_false (show ¬ c ≥ lo from h1), cond_false]
      obtain ⟨v', e, hl, k⟩ := one12a hb cs v
      exact ⟨v', e, by simp only [List.length_cons]; omega, k⟩
theorem one12b (hb : -1099511627776 ≤ lo ∧ hi ≤ 1099511627776) : ∀ (cs : List Int), zI lo hi cs = .x1 ∨ ∃ v', zI lo hi cs = .x0 v' ∧ v'.length ≤ 3 * cs.length ∧ ∀ x, In v' x ↔ (lo ≤ x ∧ x ≤ hi)
  | [] => .inl rfl
  | c :: cs => by
    unfold zI
    have ih := one12b hb cs
    have ih' : zI lo hi cs = .x1 ∨ ∃ v', zI lo hi cs = .x0 v' ∧ v'.length ≤ 3 * (c :: cs).length ∧ ∀ x, In v' x ↔ (lo ≤ x ∧ x ≤ hi) := ih.imp id fun ⟨v', e, hl, k⟩ => ⟨v', e, by simp only [List.length_cons]; omega, k⟩
    by_cases h1 : lo ≤ c
    · rw [decide_eq_true (show c ≥ lo from h1), cond_true]
      by_cases h2 : c < hi
      · rw [decide_eq_true h2, cond_true, w64_eq (by omega) (by omega), w64_eq (by omega) (by omega)]
        obtain ⟨v', e, hl, k⟩ := one12a hb cs [(⟨c + 1, hi⟩ : S_Span), ⟨lo, c⟩, ⟨c, c - 1⟩]
        refine .inr ⟨v', e, ?_, ?_⟩
        · simp only [List.length_cons, List.length_nil] at hl ⊢; omega
        · have hp : ∀ x, In [(⟨c + 1, hi⟩ : S_Span), ⟨lo, c⟩, ⟨c, c - 1⟩] x ↔ (lo ≤ x ∧ x ≤ hi) := fun x => by
            have := pieces (v := []) (x := x) h1 h2
            rw [List.nil_append] at this
            rw [this]
            exact ⟨fun h => h.elim (fun h => absurd h In_nil) id, .inr⟩
          rcases k with k2 | k2
          · exact fun x => by rw [k2]; exact hp x
          · exact fun x => by rw [k2, hp, or_self]
      · rw [decide_eq_false h2, cond_false]; exact ih'
    · rw [decide_eq_false (show ¬ c ≥ lo from h1), cond_false]; exact ih'
end
theorem at_rev {a : GS S_Span} (h : a.l.length ≤ 64) {i n : Nat} (hi : i + (n + 1) = a.l.length) : a.l[n]? = some (GS.at a (w64 (w64 (((a.l.length : Nat) : Int) - 1) - ((i : Nat) : Int)))) := by
  rw [w64_eq (n := ((a.l.length : Nat) : Int) - 1) (by omega) (by omega), w64_eq (by omega) (by omega)]
  have e : (((a.l.length : Nat) : Int) - 1 - ((i : Nat) : Int)) = ((n : Nat) : Int) := by omega
  rw [e]
  unfold GS.at
  rw [Int.toNat_natCast, List.getD_eq_getElem?_getD, List.getElem?_eq_getElem (by omega)]; rfl
theorem In_take {l : List S_Span} {n : Nat} {s : S_Span} (h : l[n]? = some s) {x : Int} : In (l.take (n + 1)) x ↔ In (l.take n) x ∨ (s.lo ≤ x ∧ x ≤ s.hi) := by
  have e : l.take (n + 1) = l.take n ++ [s] := by
    rw [List.take_add_one, h]; rfl
  rw [e, In_append, In_cons]
  exact ⟨fun h => h.imp id fun h => h.elim id fun h => absurd h In_nil, fun h => h.imp id .inl⟩
section
variable {a : GS S_Span} {cuts : GS Int}
theorem one7a (ha : Ok a.l) : ∀ (rest : List S_Span) (i : Nat) (v : List S_Span), i + rest.length = a.l.length → ∃ v', l_RangesOne_7a a cuts rest i v = .x0 v' ∧ v'.length ≤ v.length + (3 * cuts.l.length + 1) * rest.length ∧ ∀ x, In v' x ↔ In v x ∨ In (a.l.take rest.length) x
  | [], i, v, h => ⟨v, rfl, by simp, fun x => by simp only [List.length_nil, List.take_zero]; exact ⟨.inl, fun h => h.elim id fun h => absurd h In_nil⟩⟩
  | y :: rest, i, v, h => by
    simp only [List.length_cons] at h ⊢
    unfold l_RangesOne_7a
    have hs := at_rev ha.2.2 h
    generalize GS.at a (w64 (w64 (((a.l.length : Nat) : Int) - 1) - ((i : Nat) : Int))) = s at *
    have hm := List.mem_of_getElem? hs
    have hb := ha.2.1 s hm
    obtain ⟨v', w', e, hl, k⟩ := one12 (lo := s.lo) (hi := s.hi) (by omega) cuts.l v true
    rw [e]
    dsimp only
    have hm3 : (3 * cuts.l.length + 1) * (rest.length + 1) = (3 * cuts.l.length + 1) * rest.length + (3 * cuts.l.length + 1) := Nat.mul_succ _ _
    rcases k with ⟨rfl, rfl⟩ | ⟨rfl, k⟩
    · rw [cond_true]
      obtain ⟨v2, e2, hl2, k2⟩ := one7a ha rest (i + 1) (v' ++ [s]) (by omega)
      refine ⟨v2, e2, ?_, fun x => ?_⟩
      · simp only [List.length_append, List.length_cons, List.length_nil] at hl2; omega
      · rw [k2, In_append, In_cons, In_take hs]
        have := @In_nil x
        constructor
        · rintro ((h | h | h) | h)
          · exact .inl h
          · exact .inr (.inr h)
          · exact absurd h this
          · exact .inr (.inl h)
        · rintro (h | h | h)
          · exact .inl (.inl h)
          · exact .inr h
          · exact .inl (.inr (.inl h))
    · rw [cond_false]
      obtain ⟨v2, e2, hl2, k2⟩ := one7a ha rest (i + 1) v' (by omega)
      refine ⟨v2, e2, by omega, fun x => ?_⟩
      rw [k2, k, In_take hs]
      constructor
      · rintro ((h | h) | h)
        · exact .inl h
        · exact .inr (.inr h)
        · exact .inr (.inl h)
      · rintro (h | h | h)
        · exact .inl (.inl h)
        · exact .inr h
        · exact .inl (.inr h)
theorem one7 (ha : Ok a.l) (hc : cuts.l.length ≤ 64) : (a.l = [] ∧ l_RangesOne_7 a cuts a.l 0 = .x1) ∨ ∃ v', l_RangesOne_7 a cuts a.l 0 = .x0 v' ∧ v'.length ≤ 1073741824 ∧ ∀ x, In v' x ↔ In a.l x := by
  have key : ∀ (rest : List S_Span) (i : Nat), i + rest.length = a.l.length → (rest = [] ∧ l_RangesOne_7 a cuts rest i = .x1) ∨ ∃ v', l_RangesOne_7 a cuts rest i = .x0 v' ∧ v'.length ≤ (3 * cuts.l.length + 1) * rest.length ∧ ∀ x, In v' x ↔ In (a.l.take rest.length) x := by
    intro rest i h
    cases rest with
    | nil => exact .inl ⟨rfl, rfl⟩
    | cons y rest =>
      right
      simp only [List.length_cons] at h ⊢
      unfold l_RangesOne_7
      dsimp only
      have hs := at_rev ha.2.2 h
      generalize GS.at a (w64 (w64 (((a.l.length : Nat) : Int) - 1) - ((i : Nat) : Int))) = s at *
      have hm := List.mem_of_getElem? hs
      have hb := ha.2.1 s hm
      have hm3 : (3 * cuts.l.length + 1) * (rest.length + 1) = (3 * cuts.l.length + 1) * rest.length + (3 * cuts.l.length + 1) := Nat.mul_succ _ _
      rcases one12b (lo := s.lo) (hi := s.hi) (by omega) cuts.l with e | ⟨v', e, hl, k⟩ <;> rw [e] <;> dsimp only
      · obtain ⟨v2, e2, hl2, k2⟩ := one7a (cuts := cuts) ha rest (i + 1) [s] (by omega)
        refine ⟨v2, e2, ?_, fun x => ?_⟩
        · simp only [List.length_cons, List.length_nil] at hl2; omega
        · rw [k2, In_cons, In_take hs]
          have := @In_nil x
          constructor
          · rintro ((h | h) | h)
            · exact .inr h
            · exact absurd h this
            · exact .inl h
          · rintro (h | h)
            · exact .inr h
            · exact .inl (.inl h)
      · obtain ⟨v2, e2, hl2, k2⟩ := one7a (cuts := cuts) ha rest (i + 1) v' (by omega)
        refine ⟨v2, e2, by omega, fun x => ?_⟩
        rw [k2, k, In_take hs]
        exact or_comm
  rcases key a.l 0 (by omega) with h | ⟨v', e, hl, k⟩
  · exact .inl h
  · refine .inr ⟨v', e, ?_, fun x => ?_⟩
    · have h1 : (3 * cuts.l.length + 1) * a.l.length ≤ 193 * 64 := Nat.mul_le_mul (by omega) ha.2.2
      omega
    · rw [k, List.take_length]
theorem of_exact {l : GS S_Span} (hl : l.l.length ≤ 1073741824) (ha : Ok a.l) (h : ∀ x, In l.l x ↔ In a.l x) : (zo l).1.l = a.l ∧ (zo l).2 = 0 := by
  have hne : ∀ s ∈ l.l.flatMap ofF, s.lo ≤ s.hi := flat_ne fun a _ => some_ne
  have hin : ∀ x, In (l.l.flatMap ofF) x ↔ In a.l x := fun x => by rw [In_of, h]
  have hr : Rg (In a.l) (can gcmp (l.l.flatMap ofF)) := (can_rg gcmp_lo hne).congr hin
  have he : can gcmp (l.l.flatMap ofF) = a.l := hr.unique ⟨ha.1, fun _ => Iff.rfl⟩
  rcases Of_gr (l := l) (by omega) with ⟨_, _, h3, h4⟩ | ⟨h1, _⟩
  · exact ⟨h3.trans he, h4⟩
  · rcases h1 with h1 | h1
    · refine absurd (fun s hs => ?_) h1
      have hn := hne s hs
      have b1 := bd_in ha.2.1 ((hin s.lo).1 ⟨s, hs, by omega, by omega⟩)
      have b2 := bd_in ha.2.1 ((hin s.hi).1 ⟨s, hs, by omega, by omega⟩)
      unfold Ar; omega
    · rw [he] at h1; have := ha.2.2; omega
end
theorem both_in {a b : GS S_Span} (ha : Ok a.l) (hb : Ok b.l) : ((zd a b).1 && (zd b a).1) = zq a b := by
  obtain ⟨z, e, k⟩ := within_ok ha hb
  obtain ⟨y, f, j⟩ := within_ok hb ha
  rw [e, f]
  refine Bool.eq_iff_iff.2 ?_
  simp only [Bool.and_eq_true]
  rw [k, j, same_iff]
  constructor
  · rintro ⟨p, q⟩
    exact cn_unique ha.1 hb.1 fun x => ⟨p x, q x⟩
  · intro h
    rw [h]; exact ⟨fun x h => h, fun x h => h⟩
theorem one_true (a b : GS S_Span) (cuts : GS Int) : l_RangesOne a b cuts = true := by
  unfold l_RangesOne
  cases ha : r_Valid a with
  | false => rfl
  | true => cases hb : r_Valid b with
    | false => rfl
    | true =>
      have ha := zt.1 ha
      have hb := zt.1 hb
      cases hc : decide (((cuts.l.length : Nat) : Int) > 64) with
      | true => rfl
      | false =>
        have hc := of_decide_eq_false hc
        have hw := both_in ha hb
        simp only [cond_true, cond_false]
        have fin : ∀ l : GS S_Span, l.l.length ≤ 1073741824 → (∀ x, In l.l x ↔ In a.l x) → ((zo l).2 != 0) = false ∧ zq (zo l).1 a = true := fun l h1 h2 => by
          obtain ⟨e1, e2⟩ := of_exact h1 ha h2
          rw [e2]
          exact ⟨rfl, same_refl e1⟩
        rcases one7 (cuts := cuts) ha (by omega) with ⟨h, e⟩ | ⟨v, e, hl, h⟩ <;> rw [e] <;> dsimp only
        · obtain ⟨f1, f2⟩ := fin GS.nil (by simp [GS.nil]) (fun x => by rw [h]; rfl)
          rw [f1, f2]
          simp only [cond_true, cond_false]
          cases h1 : (zd a b).1 <;> cases h2 : (zd b a).1 <;> rw [h1, h2] at hw <;> simp at hw <;> simp [hw]
        · obtain ⟨f1, f2⟩ := fin (GS.some v) hl h
          rw [f1, f2]
          simp only [cond_true, cond_false]
          cases h1 : (zd a b).1 <;> cases h2 : (zd b a).1 <;> rw [h1, h2] at hw <;> simp at hw <;> simp [hw]
theorem law_one (a b : GS S_Span) (cuts : GS Int) : a.l.length ≤ 9223372036854775807 → b.l.length ≤ 9223372036854775807 → cuts.l.length ≤ 9223372036854775807 → (lim cfg).pure 6 [GS.D S_Span.D 2 a, GS.D S_Span.D 2 b, GS.D I 1 cuts] = some (B true) := fun h1 h2 h3 => by
  rw [T_l_RangesOne a b cuts h1 h2 h3, one_true]
end Go.VS

